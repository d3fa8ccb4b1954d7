/- Part A2: lemmas and walks that the claim rests on. No claim is made here. -/
import Derived.Deep.DeepCutAuto
import Derived.Deep.RegionHeld3
import Derived.Deep.DrawnRows
import Derived.Test.YtmneloabphplmaaGreatProg
import Derived.WalkKit
import Derived.WalkSpells
import Derived.WalkLawsBesides
import Derived.BigQuiet
import Derived.Deep.QuietTactic
import Derived.Deep.AppendLies
import Derived.Lib.Hide
import Derived.Laws.OwnMore
import Derived.Test.YtmneloabphplmaaGreatA1
set_option linter.unusedVariables false
/- Walks: fractions in lowest terms. -/
namespace Go.Proofs.YtmneloabphplmaaGreat
open Go Go.RowKit Bn
attribute [local go_sem ↓] Go.wp_at_zero Go.wp_at_succ
theorem int_q (i : Int) : Rat.divInt i 1 = (i : Rat) := by have := q_eq (i : Rat); simpa using this.symm
theorem sign3 (z : Int) : z = 0 ∨ z.sign = 1 ∨ z.sign = -1 := by
  rcases Int.lt_trichotomy z 0 with h | h | h
  · exact .inr (.inr (Int.sign_eq_neg_one_of_neg h))
  · exact .inl h
  · exact .inr (.inl (Int.sign_eq_one_of_pos h))
theorem sign_pos {z : Int} (h : z.sign = 1) : 0 < z := Int.sign_eq_one_iff_pos.1 h
theorem sign_neg_ {z : Int} (h : z.sign = -1) : 0 < -z := by have := Int.sign_eq_neg_one_iff_neg.1 h; omega
theorem sign_ne {z : Int} (h : z.sign = -1) : z ≠ 0 := by rintro rfl; cases h
theorem gcd_ne {a b : Int} (h : 0 < b) : ((Nat.gcd a.natAbs b.natAbs : Nat) : Int) ≠ 0 := by
  have : 0 < Nat.gcd a.natAbs b.natAbs := Nat.gcd_pos_of_pos_right _ (by omega)
  omega
theorem wh_div {a : Int} (g : Nat) (h : 0 < a) : (wh (a / (g : Int))).mag = digs (a.natAbs / g) := by
  have e : (a / (g : Int)) = ((a.natAbs / g : Nat) : Int) := by
    rw [Int.natCast_ediv, Int.natAbs_of_nonneg (by omega)]
  rw [e]; rfl
theorem form_pos {z d : Int} {q : Rat} (hz : z.sign = 1) (hd : 0 < d) (hq : Rat.divInt z d = q) :
    (rd q).num = (wh (z / ((Nat.gcd z.natAbs d.natAbs : Nat) : Int))).mag ∧ (rd q).den = (wh (d / ((Nat.gcd z.natAbs d.natAbs : Nat) : Int))).mag ∧ (rd q).neg = false := by
  have hp := sign_pos hz
  rw [← hq, rd_divInt (by omega) hd, wh_div _ hp, wh_div _ hd]
  exact ⟨rfl, rfl, by simp; omega⟩
theorem form_neg {z d : Int} {q : Rat} (hz : z.sign = -1) (hd : 0 < d) (hq : Rat.divInt z d = q) :
    (rd q).num = (wh (-z / ((Nat.gcd z.natAbs d.natAbs : Nat) : Int))).mag ∧ (rd q).den = (wh (d / ((Nat.gcd z.natAbs d.natAbs : Nat) : Int))).mag ∧ (rd q).neg = true := by
  have hp := sign_neg_ hz
  rw [← hq, rd_divInt (by omega) hd, wh_div _ hp, wh_div _ hd, Int.natAbs_neg]
  exact ⟨rfl, rfl, by simp; omega⟩
theorem i_sign_e (w : World) (b : Bool) (A : Option Addr) (n c : Nat) (z : Int) (k : Nat) (h : IZ w b A n c z k) (s : Int) (hs : z.sign = s) (hk : k ≤ 1000000000) : Calls Tryz.prog 66 #[.agg #[.bool b, .slice A n c]] w (RetV w (.int .i64 s)) := by
  subst hs; exact i_sign w b A n c z k h hk
set_option maxHeartbeats 2000000 in
/-- fraction.form -/
theorem f_form_0 (w : World) (b : Bool) (A : Option Addr) (n c : Nat) (z : Int) (k : Nat) (h : IZ w b A n c z k) (b' : Bool) (A' : Option Addr) (n' c' : Nat) (z' : Int) (k' : Nat) (h' : IZ w b' A' n' c' z' k') (K : Nat) (hz : z = 0) (hk : k + k' ≤ 300000000) :
    Calls Tryz.prog 62 #[.agg #[.bool b, .slice A n c], .agg #[.bool b', .slice A' n' c']] w (RetF w 0 K) := by
  have HZ := Lib.hid (show z.sign = 0 by rw [hz]; rfl)
  clear hz
  go_enter Tryz.func62, Tryz.ntmps62
  go_wp2_with fail
  (with_reducible refine (i_sign_e _ b A n c (z) (k) ?_ (0) ?_ ?_).mono ?_); (exact (h.belw ((((Below.refl _ _).alloc (Nat.le_refl _) _).alloc (by simp) _).alloc (by simp <;> omega) _))); (exact HZ.out); (omega); rintro e w1 ⟨rfl, hb1⟩
  have q1 : Below w.heap.size w w1 := ((((Below.refl _ _).alloc (Nat.le_refl _) _).alloc (by simp) _).alloc (by simp <;> omega) _).trans (hb1.mono (by simp <;> omega))
  replace h := h.belw q1
  replace h' := h'.belw q1
  have x1_0 : Blk w1 (w.heap.size) 77 #[.bool b, .slice A n c] := (((blkAt _ _ _ (by simp)).alloc _).alloc _).below hb1 (by simp <;> omega)
  have x1_1 : Blk w1 (w.heap.size + 1) 77 #[.bool b', .slice A' n' c'] := ((blkAt _ _ _ (by simp)).alloc _).below hb1 (by simp <;> omega)
  have x1_2 : Blk w1 (w.heap.size + 1 + 1) 24 #[.bool false, .slice none 0 0, .slice none 0 0] := (blkAt _ _ _ (by simp)).below hb1 (by simp)
  have bw1 : Below w.heap.size w w1 := (brefl w).trans (q1.mono (brefl w).size)
  have lw1 : w.heap.size + 3 ≤ w1.heap.size := by have := hb1.size; simp at this; omega
  clear hb1 q1
  obtain ⟨cx1_2_0, cx1_2_1, cx1_2_2⟩ := x1_2.c3
  obtain ⟨fx1_2_0, fx1_2_1, fx1_2_2⟩ := x1_2.f3
  obtain ⟨lx1_2_0, lx1_2_1, lx1_2_2, lx1_2_3⟩ := lts2 x1_2.lt
  go_wp2_with fail
  refine bodyPost_ret (v := .agg #[.bool false, .slice none 0 0, .slice none 0 0]) (by simp [results, Tryz.results62, go_sem, *] <;> first | rfl | exact ⟨rfl, rfl⟩) rfl ?_
  exact ⟨false, none, 0, 0, none, 0, 0, rfl, QV.zero _ _, (((bw1.setCell (p := ⟨w.heap.size + 1 + 1, 0, none⟩) (by dsimp only; omega) (.bool false)).setCell (p := ⟨w.heap.size + 1 + 1, 1, none⟩) (by dsimp only; omega) (.slice none 0 0)).setCell (p := ⟨w.heap.size + 1 + 1, 2, none⟩) (by dsimp only; omega) (.slice none 0 0))⟩
set_option maxHeartbeats 2000000 in
/-- fraction.form -/
theorem f_form_pp (w : World) (b : Bool) (A : Option Addr) (n c : Nat) (z : Int) (k : Nat) (h : IZ w b A n c z k) (b' : Bool) (A' : Option Addr) (n' c' : Nat) (z' : Int) (k' : Nat) (h' : IZ w b' A' n' c' z' k') (q : Rat) (K : Nat) (hz : z.sign = 1) (hd : z'.sign = 1) (hq : Rat.divInt z z' = q) (hs : Sz q K) (hk : k + k' ≤ 300000000) :
    Calls Tryz.prog 62 #[.agg #[.bool b, .slice A n c], .agg #[.bool b', .slice A' n' c']] w (RetF w q K) := by
  have HZ := Lib.hid hz
  have HD := Lib.hid hd
  have HN := Lib.hid (show (z).sign = 1 by exact hz)
  have HP := Lib.hid (show 0 < z' by exact sign_pos hd)
  have HG := Lib.hid (show ((Nat.gcd (z).natAbs (z').natAbs : Nat) : Int) ≠ 0 from gcd_ne HP.out)
  have HQ := Lib.hid (show Rat.divInt z z' = q by exact hq)
  have HS := Lib.hid hs
  clear hz hd hq hs
  go_enter Tryz.func62, Tryz.ntmps62
  go_wp2_with fail
  (with_reducible refine (i_sign_e _ b A n c (z) (k) ?_ (1) ?_ ?_).mono ?_); (exact (h.belw ((((Below.refl _ _).alloc (Nat.le_refl _) _).alloc (by simp) _).alloc (by simp <;> omega) _))); (exact HZ.out); (omega); rintro e w1 ⟨rfl, hb1⟩
  have q1 : Below w.heap.size w w1 := ((((Below.refl _ _).alloc (Nat.le_refl _) _).alloc (by simp) _).alloc (by simp <;> omega) _).trans (hb1.mono (by simp <;> omega))
  replace h := h.belw q1
  replace h' := h'.belw q1
  have x1_0 : Blk w1 (w.heap.size) 77 #[.bool b, .slice A n c] := (((blkAt _ _ _ (by simp)).alloc _).alloc _).below hb1 (by simp <;> omega)
  have x1_1 : Blk w1 (w.heap.size + 1) 77 #[.bool b', .slice A' n' c'] := ((blkAt _ _ _ (by simp)).alloc _).below hb1 (by simp <;> omega)
  have x1_2 : Blk w1 (w.heap.size + 1 + 1) 24 #[.bool false, .slice none 0 0, .slice none 0 0] := (blkAt _ _ _ (by simp)).below hb1 (by simp)
  have bw1 : Below w.heap.size w w1 := (brefl w).trans (q1.mono (brefl w).size)
  have lw1 : w.heap.size + 3 ≤ w1.heap.size := by have := hb1.size; simp at this; omega
  clear hb1 q1
  obtain ⟨cx1_1_0, cx1_1_1⟩ := x1_1.c2
  obtain ⟨lx1_1_0, lx1_1_1, lx1_1_2, lx1_1_3⟩ := lts1 x1_1.lt
  go_wp2_with fail
  (with_reducible refine (i_sign_e _ b' A' n' c' (z') (k') ?_ (1) ?_ ?_).mono ?_); (exact h'); (exact HD.out); (omega); rintro e w2 ⟨rfl, hb2⟩
  clear cx1_1_0 cx1_1_1 lx1_1_0 lx1_1_1 lx1_1_2 lx1_1_3
  have q2 : Below w1.heap.size w1 w2 := hb2
  replace h := h.belw q2
  replace h' := h'.belw q2
  replace x1_0 := x1_0.below q2 x1_0.lt
  replace x1_1 := x1_1.below q2 x1_1.lt
  replace x1_2 := x1_2.below q2 x1_2.lt
  have bw2 : Below w.heap.size w w2 := bw1.trans (q2.mono bw1.size)
  have lw2 : w1.heap.size ≤ w2.heap.size := q2.size
  clear hb2 q2 bw1
  obtain ⟨cx1_0_0, cx1_0_1⟩ := x1_0.c2
  obtain ⟨lx1_0_0, lx1_0_1, lx1_0_2, lx1_0_3⟩ := lts0 x1_0.lt
  obtain ⟨cx1_1_0, cx1_1_1⟩ := x1_1.c2
  obtain ⟨lx1_1_0, lx1_1_1, lx1_1_2, lx1_1_3⟩ := lts1 x1_1.lt
  go_wp2_with fail
  (with_reducible refine (i_gcd _ b A n c (z) (k) ?_ b' A' n' c' (z') (k') ?_ ?_).mono ?_); (exact h); (exact h'); (first | omega | decide | assumption); rintro e w3 ⟨b3, A3, n3, c3, rfl, h3, hb3⟩
  clear cx1_0_0 cx1_0_1 lx1_0_0 lx1_0_1 lx1_0_2 lx1_0_3 cx1_1_0 cx1_1_1 lx1_1_0 lx1_1_1 lx1_1_2 lx1_1_3
  have q3 : Below w2.heap.size w2 w3 := hb3
  replace h := h.belw q3
  replace h' := h'.belw q3
  replace x1_0 := x1_0.below q3 x1_0.lt
  replace x1_1 := x1_1.below q3 x1_1.lt
  replace x1_2 := x1_2.below q3 x1_2.lt
  have bw3 : Below w.heap.size w w3 := bw2.trans (q3.mono bw2.size)
  have lw3 : w2.heap.size ≤ w3.heap.size := q3.size
  clear hb3 q3 bw2
  obtain ⟨cx1_0_0, cx1_0_1⟩ := x1_0.c2
  obtain ⟨lx1_0_0, lx1_0_1, lx1_0_2, lx1_0_3⟩ := lts0 x1_0.lt
  go_wp2_with fail
  (with_reducible refine (i_sign_e _ b A n c (z) (k) ?_ (1) ?_ ?_).mono ?_); (exact (h.belw ((Below.refl _ _).alloc (Nat.le_refl _) _))); (exact HN.out); (omega); rintro e w4 ⟨rfl, hb4⟩
  clear cx1_0_0 cx1_0_1 lx1_0_0 lx1_0_1 lx1_0_2 lx1_0_3
  have q4 : Below w3.heap.size w3 w4 := ((Below.refl _ _).alloc (Nat.le_refl _) _).trans (hb4.mono (by simp))
  replace h := h.belw q4
  replace h' := h'.belw q4
  replace h3 := h3.belw q4
  replace x1_0 := x1_0.below q4 x1_0.lt
  replace x1_1 := x1_1.below q4 x1_1.lt
  replace x1_2 := x1_2.below q4 x1_2.lt
  have x4_0 : Blk w4 (w3.heap.size) 77 #[.bool b3, .slice A3 n3 c3] := (blkAt _ _ _ (by simp)).below hb4 (by simp)
  have bw4 : Below w.heap.size w w4 := bw3.trans (q4.mono bw3.size)
  have lw4 : w3.heap.size + 1 ≤ w4.heap.size := by have := hb4.size; simp at this; omega
  clear hb4 q4 bw3
  obtain ⟨cx1_0_0, cx1_0_1⟩ := x1_0.c2
  obtain ⟨lx1_0_0, lx1_0_1, lx1_0_2, lx1_0_3⟩ := lts0 x1_0.lt
  obtain ⟨cx4_0_0, cx4_0_1⟩ := x4_0.c2
  obtain ⟨lx4_0_0, lx4_0_1, lx4_0_2, lx4_0_3⟩ := lts0 x4_0.lt
  go_wp2_with fail
  (with_reducible refine (i_div _ b A n c (z) (k) ?_ b3 A3 n3 c3 ((Nat.gcd ((z)).natAbs ((z')).natAbs : Nat)) ((k) + (k')) ?_  ?_ ?_).mono ?_); (exact h); (exact h3.iz); (omega); (exact HG.out); rintro e w5 ⟨b5, A5, n5, c5, b'5, A'5, n'5, c'5, rfl, h5, h'5, hb5⟩
  clear cx1_0_0 cx1_0_1 lx1_0_0 lx1_0_1 lx1_0_2 lx1_0_3 cx4_0_0 cx4_0_1 lx4_0_0 lx4_0_1 lx4_0_2 lx4_0_3
  have q5 : Below w4.heap.size w4 w5 := hb5
  replace h := h.belw q5
  replace h' := h'.belw q5
  replace h3 := h3.belw q5
  replace x1_0 := x1_0.below q5 x1_0.lt
  replace x1_1 := x1_1.below q5 x1_1.lt
  replace x1_2 := x1_2.below q5 x1_2.lt
  replace x4_0 := x4_0.below q5 x4_0.lt
  have bw5 : Below w.heap.size w w5 := bw4.trans (q5.mono bw4.size)
  have lw5 : w4.heap.size ≤ w5.heap.size := q5.size
  clear hb5 q5 bw4
  obtain ⟨cx1_0_0, cx1_0_1⟩ := x1_0.c2
  obtain ⟨fx1_0_0, fx1_0_1⟩ := x1_0.f2
  obtain ⟨lx1_0_0, lx1_0_1, lx1_0_2, lx1_0_3⟩ := lts0 x1_0.lt
  obtain ⟨cx1_1_0, cx1_1_1⟩ := x1_1.c2
  obtain ⟨lx1_1_0, lx1_1_1, lx1_1_2, lx1_1_3⟩ := lts1 x1_1.lt
  obtain ⟨cx4_0_0, cx4_0_1⟩ := x4_0.c2
  obtain ⟨lx4_0_0, lx4_0_1, lx4_0_2, lx4_0_3⟩ := lts0 x4_0.lt
  go_wp2_with fail
  clear cx1_0_0 fx1_0_0 cx1_0_1 fx1_0_1 lx1_0_0 lx1_0_1 lx1_0_2 lx1_0_3 cx1_1_0 cx1_1_1 lx1_1_0 lx1_1_1 lx1_1_2 lx1_1_3 cx4_0_0 cx4_0_1 lx4_0_0 lx4_0_1 lx4_0_2 lx4_0_3
  have p6 : Kp w5 ((w5.setCell ⟨w.heap.size, 0, none⟩ (.bool b5)).setCell ⟨w.heap.size, 1, none⟩ (.slice A5 n5 c5)) := (((Kp.refl w5).setB (p := ⟨w.heap.size, 0, none⟩) x1_0.box (by decide) (.bool b5)).setB (p := ⟨w.heap.size, 1, none⟩) (x1_0.box.set ⟨w.heap.size, 0, none⟩ (.bool b5)) (by decide) (.slice A5 n5 c5))
  have bw6 : Below w.heap.size w ((w5.setCell ⟨w.heap.size, 0, none⟩ (.bool b5)).setCell ⟨w.heap.size, 1, none⟩ (.slice A5 n5 c5)) := ((bw5.setCell (p := ⟨w.heap.size, 0, none⟩) (by dsimp only; omega) (.bool b5)).setCell (p := ⟨w.heap.size, 1, none⟩) (by dsimp only; omega) (.slice A5 n5 c5))
  replace x1_0 : Blk ((w5.setCell ⟨w.heap.size, 0, none⟩ (.bool b5)).setCell ⟨w.heap.size, 1, none⟩ (.slice A5 n5 c5)) (w.heap.size) 77 #[.bool b5, .slice A5 n5 c5] := ((x1_0.set_at 0 (.bool b5) #[.bool b5, .slice A n c] (by simp)).set_at 1 (.slice A5 n5 c5) #[.bool b5, .slice A5 n5 c5] (by simp))
  replace x1_1 : Blk ((w5.setCell ⟨w.heap.size, 0, none⟩ (.bool b5)).setCell ⟨w.heap.size, 1, none⟩ (.slice A5 n5 c5)) (w.heap.size + 1) 77 #[.bool b', .slice A' n' c'] := ((x1_1.far (p := ⟨w.heap.size, 0, none⟩) (by dsimp only; omega) (.bool b5)).far (p := ⟨w.heap.size, 1, none⟩) (by dsimp only; omega) (.slice A5 n5 c5))
  replace x1_2 : Blk ((w5.setCell ⟨w.heap.size, 0, none⟩ (.bool b5)).setCell ⟨w.heap.size, 1, none⟩ (.slice A5 n5 c5)) (w.heap.size + 1 + 1) 24 #[.bool false, .slice none 0 0, .slice none 0 0] := ((x1_2.far (p := ⟨w.heap.size, 0, none⟩) (by dsimp only; omega) (.bool b5)).far (p := ⟨w.heap.size, 1, none⟩) (by dsimp only; omega) (.slice A5 n5 c5))
  replace x4_0 : Blk ((w5.setCell ⟨w.heap.size, 0, none⟩ (.bool b5)).setCell ⟨w.heap.size, 1, none⟩ (.slice A5 n5 c5)) (w3.heap.size) 77 #[.bool b3, .slice A3 n3 c3] := ((x4_0.far (p := ⟨w.heap.size, 0, none⟩) (by dsimp only; omega) (.bool b5)).far (p := ⟨w.heap.size, 1, none⟩) (by dsimp only; omega) (.slice A5 n5 c5))
  have lw6 : w5.heap.size + 0 ≤ ((w5.setCell ⟨w.heap.size, 0, none⟩ (.bool b5)).setCell ⟨w.heap.size, 1, none⟩ (.slice A5 n5 c5)).heap.size := by simp
  generalize hE6 : ((w5.setCell ⟨w.heap.size, 0, none⟩ (.bool b5)).setCell ⟨w.heap.size, 1, none⟩ (.slice A5 n5 c5)) = w6 at p6 bw6 lw6 x1_0 x1_1 x1_2 x4_0 ⊢
  clear hE6
  replace h := h.keep p6
  replace h' := h'.keep p6
  replace h3 := h3.keep p6
  replace h5 := h5.keep p6
  replace h'5 := h'5.keep p6
  clear bw5
  (with_reducible refine (i_div _ b' A' n' c' (z') (k') ?_ b3 A3 n3 c3 ((Nat.gcd ((z)).natAbs ((z')).natAbs : Nat)) ((k) + (k')) ?_  ?_ ?_).mono ?_); (exact h'); (exact h3.iz); (omega); (exact HG.out); rintro e w7 ⟨b7, A7, n7, c7, b'7, A'7, n'7, c'7, rfl, h7, h'7, hb7⟩
  have q7 : Below w6.heap.size w6 w7 := hb7
  replace h := h.belw q7
  replace h' := h'.belw q7
  replace h3 := h3.belw q7
  replace h5 := h5.belw q7
  replace h'5 := h'5.belw q7
  replace x1_0 := x1_0.below q7 x1_0.lt
  replace x1_1 := x1_1.below q7 x1_1.lt
  replace x1_2 := x1_2.below q7 x1_2.lt
  replace x4_0 := x4_0.below q7 x4_0.lt
  have bw7 : Below w.heap.size w w7 := bw6.trans (q7.mono bw6.size)
  have lw7 : w6.heap.size ≤ w7.heap.size := q7.size
  clear hb7 q7 bw6
  obtain ⟨cx1_0_0, cx1_0_1⟩ := x1_0.c2
  obtain ⟨lx1_0_0, lx1_0_1, lx1_0_2, lx1_0_3⟩ := lts0 x1_0.lt
  obtain ⟨cx1_1_0, cx1_1_1⟩ := x1_1.c2
  obtain ⟨fx1_1_0, fx1_1_1⟩ := x1_1.f2
  obtain ⟨lx1_1_0, lx1_1_1, lx1_1_2, lx1_1_3⟩ := lts1 x1_1.lt
  obtain ⟨cx1_2_0, cx1_2_1, cx1_2_2⟩ := x1_2.c3
  obtain ⟨fx1_2_0, fx1_2_1, fx1_2_2⟩ := x1_2.f3
  obtain ⟨lx1_2_0, lx1_2_1, lx1_2_2, lx1_2_3⟩ := lts2 x1_2.lt
  go_wp2_with fail
  refine bodyPost_ret (v := .agg #[.bool false, .slice A5 n5 c5, .slice A7 n7 c7]) (by simp [results, Tryz.results62, go_sem, *] <;> first | rfl | exact ⟨rfl, rfl⟩) rfl ?_
  obtain ⟨e1, e2, e3⟩ := form_pos HN.out HP.out HQ.out
  exact ⟨_, _, _, _, _, _, _, rfl, QV.mk_ (by rw [e1]; exact h5.2.1.keep ((((((Kp.refl w7).setB (p := ⟨w.heap.size + 1, 0, none⟩) x1_1.box (by decide) (.bool b7)).setB (p := ⟨w.heap.size + 1, 1, none⟩) (x1_1.box.set ⟨w.heap.size + 1, 0, none⟩ (.bool b7)) (by decide) (.slice A7 n7 c7)).setB (p := ⟨w.heap.size + 1 + 1, 0, none⟩) ((x1_2.box.set ⟨w.heap.size + 1, 0, none⟩ (.bool b7)).set ⟨w.heap.size + 1, 1, none⟩ (.slice A7 n7 c7)) (by decide) (.bool false)).setB (p := ⟨w.heap.size + 1 + 1, 1, none⟩) (((x1_2.box.set ⟨w.heap.size + 1, 0, none⟩ (.bool b7)).set ⟨w.heap.size + 1, 1, none⟩ (.slice A7 n7 c7)).set ⟨w.heap.size + 1 + 1, 0, none⟩ (.bool false)) (by decide) (.slice A5 n5 c5)).setB (p := ⟨w.heap.size + 1 + 1, 2, none⟩) ((((x1_2.box.set ⟨w.heap.size + 1, 0, none⟩ (.bool b7)).set ⟨w.heap.size + 1, 1, none⟩ (.slice A7 n7 c7)).set ⟨w.heap.size + 1 + 1, 0, none⟩ (.bool false)).set ⟨w.heap.size + 1 + 1, 1, none⟩ (.slice A5 n5 c5)) (by decide) (.slice A7 n7 c7))) (by rw [e2]; exact h7.2.1.keep ((((((Kp.refl w7).setB (p := ⟨w.heap.size + 1, 0, none⟩) x1_1.box (by decide) (.bool b7)).setB (p := ⟨w.heap.size + 1, 1, none⟩) (x1_1.box.set ⟨w.heap.size + 1, 0, none⟩ (.bool b7)) (by decide) (.slice A7 n7 c7)).setB (p := ⟨w.heap.size + 1 + 1, 0, none⟩) ((x1_2.box.set ⟨w.heap.size + 1, 0, none⟩ (.bool b7)).set ⟨w.heap.size + 1, 1, none⟩ (.slice A7 n7 c7)) (by decide) (.bool false)).setB (p := ⟨w.heap.size + 1 + 1, 1, none⟩) (((x1_2.box.set ⟨w.heap.size + 1, 0, none⟩ (.bool b7)).set ⟨w.heap.size + 1, 1, none⟩ (.slice A7 n7 c7)).set ⟨w.heap.size + 1 + 1, 0, none⟩ (.bool false)) (by decide) (.slice A5 n5 c5)).setB (p := ⟨w.heap.size + 1 + 1, 2, none⟩) ((((x1_2.box.set ⟨w.heap.size + 1, 0, none⟩ (.bool b7)).set ⟨w.heap.size + 1, 1, none⟩ (.slice A7 n7 c7)).set ⟨w.heap.size + 1 + 1, 0, none⟩ (.bool false)).set ⟨w.heap.size + 1 + 1, 1, none⟩ (.slice A5 n5 c5)) (by decide) (.slice A7 n7 c7))) e3 HS.out, (((((bw7.setCell (p := ⟨w.heap.size + 1, 0, none⟩) (by dsimp only; omega) (.bool b7)).setCell (p := ⟨w.heap.size + 1, 1, none⟩) (by dsimp only; omega) (.slice A7 n7 c7)).setCell (p := ⟨w.heap.size + 1 + 1, 0, none⟩) (by dsimp only; omega) (.bool false)).setCell (p := ⟨w.heap.size + 1 + 1, 1, none⟩) (by dsimp only; omega) (.slice A5 n5 c5)).setCell (p := ⟨w.heap.size + 1 + 1, 2, none⟩) (by dsimp only; omega) (.slice A7 n7 c7))⟩
set_option maxHeartbeats 2000000 in
/-- fraction.form -/
theorem f_form_pn (w : World) (b : Bool) (A : Option Addr) (n c : Nat) (z : Int) (k : Nat) (h : IZ w b A n c z k) (b' : Bool) (A' : Option Addr) (n' c' : Nat) (z' : Int) (k' : Nat) (h' : IZ w b' A' n' c' z' k') (q : Rat) (K : Nat) (hz : z.sign = -1) (hd : z'.sign = 1) (hq : Rat.divInt z z' = q) (hs : Sz q K) (hk : k + k' ≤ 300000000) :
    Calls Tryz.prog 62 #[.agg #[.bool b, .slice A n c], .agg #[.bool b', .slice A' n' c']] w (RetF w q K) := by
  have HZ := Lib.hid hz
  have HD := Lib.hid hd
  have HN := Lib.hid (show (z).sign = -1 by exact hz)
  have HP := Lib.hid (show 0 < z' by exact sign_pos hd)
  have HG := Lib.hid (show ((Nat.gcd (z).natAbs (z').natAbs : Nat) : Int) ≠ 0 from gcd_ne HP.out)
  have HQ := Lib.hid (show Rat.divInt z z' = q by exact hq)
  have HS := Lib.hid hs
  clear hz hd hq hs
  go_enter Tryz.func62, Tryz.ntmps62
  go_wp2_with fail
  (with_reducible refine (i_sign_e _ b A n c (z) (k) ?_ (-1) ?_ ?_).mono ?_); (exact (h.belw ((((Below.refl _ _).alloc (Nat.le_refl _) _).alloc (by simp) _).alloc (by simp <;> omega) _))); (exact HZ.out); (omega); rintro e w1 ⟨rfl, hb1⟩
  have q1 : Below w.heap.size w w1 := ((((Below.refl _ _).alloc (Nat.le_refl _) _).alloc (by simp) _).alloc (by simp <;> omega) _).trans (hb1.mono (by simp <;> omega))
  replace h := h.belw q1
  replace h' := h'.belw q1
  have x1_0 : Blk w1 (w.heap.size) 77 #[.bool b, .slice A n c] := (((blkAt _ _ _ (by simp)).alloc _).alloc _).below hb1 (by simp <;> omega)
  have x1_1 : Blk w1 (w.heap.size + 1) 77 #[.bool b', .slice A' n' c'] := ((blkAt _ _ _ (by simp)).alloc _).below hb1 (by simp <;> omega)
  have x1_2 : Blk w1 (w.heap.size + 1 + 1) 24 #[.bool false, .slice none 0 0, .slice none 0 0] := (blkAt _ _ _ (by simp)).below hb1 (by simp)
  have bw1 : Below w.heap.size w w1 := (brefl w).trans (q1.mono (brefl w).size)
  have lw1 : w.heap.size + 3 ≤ w1.heap.size := by have := hb1.size; simp at this; omega
  clear hb1 q1
  obtain ⟨cx1_1_0, cx1_1_1⟩ := x1_1.c2
  obtain ⟨lx1_1_0, lx1_1_1, lx1_1_2, lx1_1_3⟩ := lts1 x1_1.lt
  go_wp2_with fail
  (with_reducible refine (i_sign_e _ b' A' n' c' (z') (k') ?_ (1) ?_ ?_).mono ?_); (exact h'); (exact HD.out); (omega); rintro e w2 ⟨rfl, hb2⟩
  clear cx1_1_0 cx1_1_1 lx1_1_0 lx1_1_1 lx1_1_2 lx1_1_3
  have q2 : Below w1.heap.size w1 w2 := hb2
  replace h := h.belw q2
  replace h' := h'.belw q2
  replace x1_0 := x1_0.below q2 x1_0.lt
  replace x1_1 := x1_1.below q2 x1_1.lt
  replace x1_2 := x1_2.below q2 x1_2.lt
  have bw2 : Below w.heap.size w w2 := bw1.trans (q2.mono bw1.size)
  have lw2 : w1.heap.size ≤ w2.heap.size := q2.size
  clear hb2 q2 bw1
  obtain ⟨cx1_0_0, cx1_0_1⟩ := x1_0.c2
  obtain ⟨lx1_0_0, lx1_0_1, lx1_0_2, lx1_0_3⟩ := lts0 x1_0.lt
  obtain ⟨cx1_1_0, cx1_1_1⟩ := x1_1.c2
  obtain ⟨lx1_1_0, lx1_1_1, lx1_1_2, lx1_1_3⟩ := lts1 x1_1.lt
  go_wp2_with fail
  (with_reducible refine (i_gcd _ b A n c (z) (k) ?_ b' A' n' c' (z') (k') ?_ ?_).mono ?_); (exact h); (exact h'); (first | omega | decide | assumption); rintro e w3 ⟨b3, A3, n3, c3, rfl, h3, hb3⟩
  clear cx1_0_0 cx1_0_1 lx1_0_0 lx1_0_1 lx1_0_2 lx1_0_3 cx1_1_0 cx1_1_1 lx1_1_0 lx1_1_1 lx1_1_2 lx1_1_3
  have q3 : Below w2.heap.size w2 w3 := hb3
  replace h := h.belw q3
  replace h' := h'.belw q3
  replace x1_0 := x1_0.below q3 x1_0.lt
  replace x1_1 := x1_1.below q3 x1_1.lt
  replace x1_2 := x1_2.below q3 x1_2.lt
  have bw3 : Below w.heap.size w w3 := bw2.trans (q3.mono bw2.size)
  have lw3 : w2.heap.size ≤ w3.heap.size := q3.size
  clear hb3 q3 bw2
  obtain ⟨cx1_0_0, cx1_0_1⟩ := x1_0.c2
  obtain ⟨lx1_0_0, lx1_0_1, lx1_0_2, lx1_0_3⟩ := lts0 x1_0.lt
  go_wp2_with fail
  (with_reducible refine (i_sign_e _ b A n c (z) (k) ?_ (-1) ?_ ?_).mono ?_); (exact (h.belw ((Below.refl _ _).alloc (Nat.le_refl _) _))); (exact HN.out); (omega); rintro e w4 ⟨rfl, hb4⟩
  clear cx1_0_0 cx1_0_1 lx1_0_0 lx1_0_1 lx1_0_2 lx1_0_3
  have q4 : Below w3.heap.size w3 w4 := ((Below.refl _ _).alloc (Nat.le_refl _) _).trans (hb4.mono (by simp))
  replace h := h.belw q4
  replace h' := h'.belw q4
  replace h3 := h3.belw q4
  replace x1_0 := x1_0.below q4 x1_0.lt
  replace x1_1 := x1_1.below q4 x1_1.lt
  replace x1_2 := x1_2.below q4 x1_2.lt
  have x4_0 : Blk w4 (w3.heap.size) 77 #[.bool b3, .slice A3 n3 c3] := (blkAt _ _ _ (by simp)).below hb4 (by simp)
  have bw4 : Below w.heap.size w w4 := bw3.trans (q4.mono bw3.size)
  have lw4 : w3.heap.size + 1 ≤ w4.heap.size := by have := hb4.size; simp at this; omega
  clear hb4 q4 bw3
  obtain ⟨cx1_0_0, cx1_0_1⟩ := x1_0.c2
  obtain ⟨lx1_0_0, lx1_0_1, lx1_0_2, lx1_0_3⟩ := lts0 x1_0.lt
  go_wp2_with fail
  (with_reducible refine (i_neg _ b A n c (z) (k) ?_ ?_).mono ?_); (exact h); (first | omega | decide | assumption); rintro e w5 ⟨b5, A5, n5, c5, rfl, h5, hb5⟩
  clear cx1_0_0 cx1_0_1 lx1_0_0 lx1_0_1 lx1_0_2 lx1_0_3
  have q5 : Below w4.heap.size w4 w5 := hb5
  replace h := h.belw q5
  replace h' := h'.belw q5
  replace h3 := h3.belw q5
  replace x1_0 := x1_0.below q5 x1_0.lt
  replace x1_1 := x1_1.below q5 x1_1.lt
  replace x1_2 := x1_2.below q5 x1_2.lt
  replace x4_0 := x4_0.below q5 x4_0.lt
  have bw5 : Below w.heap.size w w5 := bw4.trans (q5.mono bw4.size)
  have lw5 : w4.heap.size ≤ w5.heap.size := q5.size
  clear hb5 q5 bw4
  obtain ⟨cx1_0_0, cx1_0_1⟩ := x1_0.c2
  obtain ⟨fx1_0_0, fx1_0_1⟩ := x1_0.f2
  obtain ⟨lx1_0_0, lx1_0_1, lx1_0_2, lx1_0_3⟩ := lts0 x1_0.lt
  obtain ⟨cx4_0_0, cx4_0_1⟩ := x4_0.c2
  obtain ⟨lx4_0_0, lx4_0_1, lx4_0_2, lx4_0_3⟩ := lts0 x4_0.lt
  go_wp2_with fail
  clear cx1_0_0 fx1_0_0 cx1_0_1 fx1_0_1 lx1_0_0 lx1_0_1 lx1_0_2 lx1_0_3 cx4_0_0 cx4_0_1 lx4_0_0 lx4_0_1 lx4_0_2 lx4_0_3
  have p6 : Kp w5 ((w5.setCell ⟨w.heap.size, 0, none⟩ (.bool b5)).setCell ⟨w.heap.size, 1, none⟩ (.slice A5 n5 c5)) := (((Kp.refl w5).setB (p := ⟨w.heap.size, 0, none⟩) x1_0.box (by decide) (.bool b5)).setB (p := ⟨w.heap.size, 1, none⟩) (x1_0.box.set ⟨w.heap.size, 0, none⟩ (.bool b5)) (by decide) (.slice A5 n5 c5))
  have bw6 : Below w.heap.size w ((w5.setCell ⟨w.heap.size, 0, none⟩ (.bool b5)).setCell ⟨w.heap.size, 1, none⟩ (.slice A5 n5 c5)) := ((bw5.setCell (p := ⟨w.heap.size, 0, none⟩) (by dsimp only; omega) (.bool b5)).setCell (p := ⟨w.heap.size, 1, none⟩) (by dsimp only; omega) (.slice A5 n5 c5))
  replace x1_0 : Blk ((w5.setCell ⟨w.heap.size, 0, none⟩ (.bool b5)).setCell ⟨w.heap.size, 1, none⟩ (.slice A5 n5 c5)) (w.heap.size) 77 #[.bool b5, .slice A5 n5 c5] := ((x1_0.set_at 0 (.bool b5) #[.bool b5, .slice A n c] (by simp)).set_at 1 (.slice A5 n5 c5) #[.bool b5, .slice A5 n5 c5] (by simp))
  replace x1_1 : Blk ((w5.setCell ⟨w.heap.size, 0, none⟩ (.bool b5)).setCell ⟨w.heap.size, 1, none⟩ (.slice A5 n5 c5)) (w.heap.size + 1) 77 #[.bool b', .slice A' n' c'] := ((x1_1.far (p := ⟨w.heap.size, 0, none⟩) (by dsimp only; omega) (.bool b5)).far (p := ⟨w.heap.size, 1, none⟩) (by dsimp only; omega) (.slice A5 n5 c5))
  replace x1_2 : Blk ((w5.setCell ⟨w.heap.size, 0, none⟩ (.bool b5)).setCell ⟨w.heap.size, 1, none⟩ (.slice A5 n5 c5)) (w.heap.size + 1 + 1) 24 #[.bool false, .slice none 0 0, .slice none 0 0] := ((x1_2.far (p := ⟨w.heap.size, 0, none⟩) (by dsimp only; omega) (.bool b5)).far (p := ⟨w.heap.size, 1, none⟩) (by dsimp only; omega) (.slice A5 n5 c5))
  replace x4_0 : Blk ((w5.setCell ⟨w.heap.size, 0, none⟩ (.bool b5)).setCell ⟨w.heap.size, 1, none⟩ (.slice A5 n5 c5)) (w3.heap.size) 77 #[.bool b3, .slice A3 n3 c3] := ((x4_0.far (p := ⟨w.heap.size, 0, none⟩) (by dsimp only; omega) (.bool b5)).far (p := ⟨w.heap.size, 1, none⟩) (by dsimp only; omega) (.slice A5 n5 c5))
  have lw6 : w5.heap.size + 0 ≤ ((w5.setCell ⟨w.heap.size, 0, none⟩ (.bool b5)).setCell ⟨w.heap.size, 1, none⟩ (.slice A5 n5 c5)).heap.size := by simp
  generalize hE6 : ((w5.setCell ⟨w.heap.size, 0, none⟩ (.bool b5)).setCell ⟨w.heap.size, 1, none⟩ (.slice A5 n5 c5)) = w6 at p6 bw6 lw6 x1_0 x1_1 x1_2 x4_0 ⊢
  clear hE6
  replace h := h.keep p6
  replace h' := h'.keep p6
  replace h3 := h3.keep p6
  replace h5 := h5.keep p6
  clear bw5
  (with_reducible refine (i_div _ b5 A5 n5 c5 (-(z)) ((k)) ?_ b3 A3 n3 c3 ((Nat.gcd ((z)).natAbs ((z')).natAbs : Nat)) ((k) + (k')) ?_  ?_ ?_).mono ?_); (exact h5.iz); (exact h3.iz); (omega); (exact HG.out); rintro e w7 ⟨b7, A7, n7, c7, b'7, A'7, n'7, c'7, rfl, h7, h'7, hb7⟩
  have q7 : Below w6.heap.size w6 w7 := hb7
  replace h := h.belw q7
  replace h' := h'.belw q7
  replace h3 := h3.belw q7
  replace h5 := h5.belw q7
  replace x1_0 := x1_0.below q7 x1_0.lt
  replace x1_1 := x1_1.below q7 x1_1.lt
  replace x1_2 := x1_2.below q7 x1_2.lt
  replace x4_0 := x4_0.below q7 x4_0.lt
  have bw7 : Below w.heap.size w w7 := bw6.trans (q7.mono bw6.size)
  have lw7 : w6.heap.size ≤ w7.heap.size := q7.size
  clear hb7 q7 bw6
  obtain ⟨cx1_0_0, cx1_0_1⟩ := x1_0.c2
  obtain ⟨fx1_0_0, fx1_0_1⟩ := x1_0.f2
  obtain ⟨lx1_0_0, lx1_0_1, lx1_0_2, lx1_0_3⟩ := lts0 x1_0.lt
  obtain ⟨cx1_1_0, cx1_1_1⟩ := x1_1.c2
  obtain ⟨lx1_1_0, lx1_1_1, lx1_1_2, lx1_1_3⟩ := lts1 x1_1.lt
  obtain ⟨cx4_0_0, cx4_0_1⟩ := x4_0.c2
  obtain ⟨lx4_0_0, lx4_0_1, lx4_0_2, lx4_0_3⟩ := lts0 x4_0.lt
  go_wp2_with fail
  clear cx1_0_0 fx1_0_0 cx1_0_1 fx1_0_1 lx1_0_0 lx1_0_1 lx1_0_2 lx1_0_3 cx1_1_0 cx1_1_1 lx1_1_0 lx1_1_1 lx1_1_2 lx1_1_3 cx4_0_0 cx4_0_1 lx4_0_0 lx4_0_1 lx4_0_2 lx4_0_3
  have p8 : Kp w7 ((w7.setCell ⟨w.heap.size, 0, none⟩ (.bool b7)).setCell ⟨w.heap.size, 1, none⟩ (.slice A7 n7 c7)) := (((Kp.refl w7).setB (p := ⟨w.heap.size, 0, none⟩) x1_0.box (by decide) (.bool b7)).setB (p := ⟨w.heap.size, 1, none⟩) (x1_0.box.set ⟨w.heap.size, 0, none⟩ (.bool b7)) (by decide) (.slice A7 n7 c7))
  have bw8 : Below w.heap.size w ((w7.setCell ⟨w.heap.size, 0, none⟩ (.bool b7)).setCell ⟨w.heap.size, 1, none⟩ (.slice A7 n7 c7)) := ((bw7.setCell (p := ⟨w.heap.size, 0, none⟩) (by dsimp only; omega) (.bool b7)).setCell (p := ⟨w.heap.size, 1, none⟩) (by dsimp only; omega) (.slice A7 n7 c7))
  replace x1_0 : Blk ((w7.setCell ⟨w.heap.size, 0, none⟩ (.bool b7)).setCell ⟨w.heap.size, 1, none⟩ (.slice A7 n7 c7)) (w.heap.size) 77 #[.bool b7, .slice A7 n7 c7] := ((x1_0.set_at 0 (.bool b7) #[.bool b7, .slice A5 n5 c5] (by simp)).set_at 1 (.slice A7 n7 c7) #[.bool b7, .slice A7 n7 c7] (by simp))
  replace x1_1 : Blk ((w7.setCell ⟨w.heap.size, 0, none⟩ (.bool b7)).setCell ⟨w.heap.size, 1, none⟩ (.slice A7 n7 c7)) (w.heap.size + 1) 77 #[.bool b', .slice A' n' c'] := ((x1_1.far (p := ⟨w.heap.size, 0, none⟩) (by dsimp only; omega) (.bool b7)).far (p := ⟨w.heap.size, 1, none⟩) (by dsimp only; omega) (.slice A7 n7 c7))
  replace x1_2 : Blk ((w7.setCell ⟨w.heap.size, 0, none⟩ (.bool b7)).setCell ⟨w.heap.size, 1, none⟩ (.slice A7 n7 c7)) (w.heap.size + 1 + 1) 24 #[.bool false, .slice none 0 0, .slice none 0 0] := ((x1_2.far (p := ⟨w.heap.size, 0, none⟩) (by dsimp only; omega) (.bool b7)).far (p := ⟨w.heap.size, 1, none⟩) (by dsimp only; omega) (.slice A7 n7 c7))
  replace x4_0 : Blk ((w7.setCell ⟨w.heap.size, 0, none⟩ (.bool b7)).setCell ⟨w.heap.size, 1, none⟩ (.slice A7 n7 c7)) (w3.heap.size) 77 #[.bool b3, .slice A3 n3 c3] := ((x4_0.far (p := ⟨w.heap.size, 0, none⟩) (by dsimp only; omega) (.bool b7)).far (p := ⟨w.heap.size, 1, none⟩) (by dsimp only; omega) (.slice A7 n7 c7))
  have lw8 : w7.heap.size + 0 ≤ ((w7.setCell ⟨w.heap.size, 0, none⟩ (.bool b7)).setCell ⟨w.heap.size, 1, none⟩ (.slice A7 n7 c7)).heap.size := by simp
  generalize hE8 : ((w7.setCell ⟨w.heap.size, 0, none⟩ (.bool b7)).setCell ⟨w.heap.size, 1, none⟩ (.slice A7 n7 c7)) = w8 at p8 bw8 lw8 x1_0 x1_1 x1_2 x4_0 ⊢
  clear hE8
  replace h := h.keep p8
  replace h' := h'.keep p8
  replace h3 := h3.keep p8
  replace h5 := h5.keep p8
  replace h7 := h7.keep p8
  replace h'7 := h'7.keep p8
  clear bw7
  (with_reducible refine (i_div _ b' A' n' c' (z') (k') ?_ b3 A3 n3 c3 ((Nat.gcd ((z)).natAbs ((z')).natAbs : Nat)) ((k) + (k')) ?_  ?_ ?_).mono ?_); (exact h'); (exact h3.iz); (omega); (exact HG.out); rintro e w9 ⟨b9, A9, n9, c9, b'9, A'9, n'9, c'9, rfl, h9, h'9, hb9⟩
  have q9 : Below w8.heap.size w8 w9 := hb9
  replace h := h.belw q9
  replace h' := h'.belw q9
  replace h3 := h3.belw q9
  replace h5 := h5.belw q9
  replace h7 := h7.belw q9
  replace h'7 := h'7.belw q9
  replace x1_0 := x1_0.below q9 x1_0.lt
  replace x1_1 := x1_1.below q9 x1_1.lt
  replace x1_2 := x1_2.below q9 x1_2.lt
  replace x4_0 := x4_0.below q9 x4_0.lt
  have bw9 : Below w.heap.size w w9 := bw8.trans (q9.mono bw8.size)
  have lw9 : w8.heap.size ≤ w9.heap.size := q9.size
  clear hb9 q9 bw8
  obtain ⟨cx1_0_0, cx1_0_1⟩ := x1_0.c2
  obtain ⟨lx1_0_0, lx1_0_1, lx1_0_2, lx1_0_3⟩ := lts0 x1_0.lt
  obtain ⟨cx1_1_0, cx1_1_1⟩ := x1_1.c2
  obtain ⟨fx1_1_0, fx1_1_1⟩ := x1_1.f2
  obtain ⟨lx1_1_0, lx1_1_1, lx1_1_2, lx1_1_3⟩ := lts1 x1_1.lt
  obtain ⟨cx1_2_0, cx1_2_1, cx1_2_2⟩ := x1_2.c3
  obtain ⟨fx1_2_0, fx1_2_1, fx1_2_2⟩ := x1_2.f3
  obtain ⟨lx1_2_0, lx1_2_1, lx1_2_2, lx1_2_3⟩ := lts2 x1_2.lt
  go_wp2_with fail
  refine bodyPost_ret (v := .agg #[.bool true, .slice A7 n7 c7, .slice A9 n9 c9]) (by simp [results, Tryz.results62, go_sem, *] <;> first | rfl | exact ⟨rfl, rfl⟩) rfl ?_
  obtain ⟨e1, e2, e3⟩ := form_neg HN.out HP.out HQ.out
  exact ⟨_, _, _, _, _, _, _, rfl, QV.mk_ (by rw [e1]; exact h7.2.1.keep ((((((Kp.refl w9).setB (p := ⟨w.heap.size + 1, 0, none⟩) x1_1.box (by decide) (.bool b9)).setB (p := ⟨w.heap.size + 1, 1, none⟩) (x1_1.box.set ⟨w.heap.size + 1, 0, none⟩ (.bool b9)) (by decide) (.slice A9 n9 c9)).setB (p := ⟨w.heap.size + 1 + 1, 0, none⟩) ((x1_2.box.set ⟨w.heap.size + 1, 0, none⟩ (.bool b9)).set ⟨w.heap.size + 1, 1, none⟩ (.slice A9 n9 c9)) (by decide) (.bool true)).setB (p := ⟨w.heap.size + 1 + 1, 1, none⟩) (((x1_2.box.set ⟨w.heap.size + 1, 0, none⟩ (.bool b9)).set ⟨w.heap.size + 1, 1, none⟩ (.slice A9 n9 c9)).set ⟨w.heap.size + 1 + 1, 0, none⟩ (.bool true)) (by decide) (.slice A7 n7 c7)).setB (p := ⟨w.heap.size + 1 + 1, 2, none⟩) ((((x1_2.box.set ⟨w.heap.size + 1, 0, none⟩ (.bool b9)).set ⟨w.heap.size + 1, 1, none⟩ (.slice A9 n9 c9)).set ⟨w.heap.size + 1 + 1, 0, none⟩ (.bool true)).set ⟨w.heap.size + 1 + 1, 1, none⟩ (.slice A7 n7 c7)) (by decide) (.slice A9 n9 c9))) (by rw [e2]; exact h9.2.1.keep ((((((Kp.refl w9).setB (p := ⟨w.heap.size + 1, 0, none⟩) x1_1.box (by decide) (.bool b9)).setB (p := ⟨w.heap.size + 1, 1, none⟩) (x1_1.box.set ⟨w.heap.size + 1, 0, none⟩ (.bool b9)) (by decide) (.slice A9 n9 c9)).setB (p := ⟨w.heap.size + 1 + 1, 0, none⟩) ((x1_2.box.set ⟨w.heap.size + 1, 0, none⟩ (.bool b9)).set ⟨w.heap.size + 1, 1, none⟩ (.slice A9 n9 c9)) (by decide) (.bool true)).setB (p := ⟨w.heap.size + 1 + 1, 1, none⟩) (((x1_2.box.set ⟨w.heap.size + 1, 0, none⟩ (.bool b9)).set ⟨w.heap.size + 1, 1, none⟩ (.slice A9 n9 c9)).set ⟨w.heap.size + 1 + 1, 0, none⟩ (.bool true)) (by decide) (.slice A7 n7 c7)).setB (p := ⟨w.heap.size + 1 + 1, 2, none⟩) ((((x1_2.box.set ⟨w.heap.size + 1, 0, none⟩ (.bool b9)).set ⟨w.heap.size + 1, 1, none⟩ (.slice A9 n9 c9)).set ⟨w.heap.size + 1 + 1, 0, none⟩ (.bool true)).set ⟨w.heap.size + 1 + 1, 1, none⟩ (.slice A7 n7 c7)) (by decide) (.slice A9 n9 c9))) e3 HS.out, (((((bw9.setCell (p := ⟨w.heap.size + 1, 0, none⟩) (by dsimp only; omega) (.bool b9)).setCell (p := ⟨w.heap.size + 1, 1, none⟩) (by dsimp only; omega) (.slice A9 n9 c9)).setCell (p := ⟨w.heap.size + 1 + 1, 0, none⟩) (by dsimp only; omega) (.bool true)).setCell (p := ⟨w.heap.size + 1 + 1, 1, none⟩) (by dsimp only; omega) (.slice A7 n7 c7)).setCell (p := ⟨w.heap.size + 1 + 1, 2, none⟩) (by dsimp only; omega) (.slice A9 n9 c9))⟩
set_option maxHeartbeats 2000000 in
/-- fraction.form -/
theorem f_form_np (w : World) (b : Bool) (A : Option Addr) (n c : Nat) (z : Int) (k : Nat) (h : IZ w b A n c z k) (b' : Bool) (A' : Option Addr) (n' c' : Nat) (z' : Int) (k' : Nat) (h' : IZ w b' A' n' c' z' k') (q : Rat) (K : Nat) (hz : z.sign = 1) (hd : z'.sign = -1) (hq : Rat.divInt z z' = q) (hs : Sz q K) (hk : k + k' ≤ 300000000) :
    Calls Tryz.prog 62 #[.agg #[.bool b, .slice A n c], .agg #[.bool b', .slice A' n' c']] w (RetF w q K) := by
  have HZ := Lib.hid hz
  have HD := Lib.hid hd
  have HN := Lib.hid (show ((-z)).sign = -1 by rw [Int.sign_neg, hz] <;> rfl)
  have HP := Lib.hid (show 0 < (-z') by exact sign_neg_ hd)
  have HG := Lib.hid (show ((Nat.gcd ((-z)).natAbs ((-z')).natAbs : Nat) : Int) ≠ 0 from gcd_ne HP.out)
  have HQ := Lib.hid (show Rat.divInt (-z) (-z') = q by rw [divInt_neg_neg _ _ (sign_ne hd)]; exact hq)
  have HS := Lib.hid hs
  clear hz hd hq hs
  go_enter Tryz.func62, Tryz.ntmps62
  go_wp2_with fail
  (with_reducible refine (i_sign_e _ b A n c (z) (k) ?_ (1) ?_ ?_).mono ?_); (exact (h.belw ((((Below.refl _ _).alloc (Nat.le_refl _) _).alloc (by simp) _).alloc (by simp <;> omega) _))); (exact HZ.out); (omega); rintro e w1 ⟨rfl, hb1⟩
  have q1 : Below w.heap.size w w1 := ((((Below.refl _ _).alloc (Nat.le_refl _) _).alloc (by simp) _).alloc (by simp <;> omega) _).trans (hb1.mono (by simp <;> omega))
  replace h := h.belw q1
  replace h' := h'.belw q1
  have x1_0 : Blk w1 (w.heap.size) 77 #[.bool b, .slice A n c] := (((blkAt _ _ _ (by simp)).alloc _).alloc _).below hb1 (by simp <;> omega)
  have x1_1 : Blk w1 (w.heap.size + 1) 77 #[.bool b', .slice A' n' c'] := ((blkAt _ _ _ (by simp)).alloc _).below hb1 (by simp <;> omega)
  have x1_2 : Blk w1 (w.heap.size + 1 + 1) 24 #[.bool false, .slice none 0 0, .slice none 0 0] := (blkAt _ _ _ (by simp)).below hb1 (by simp)
  have bw1 : Below w.heap.size w w1 := (brefl w).trans (q1.mono (brefl w).size)
  have lw1 : w.heap.size + 3 ≤ w1.heap.size := by have := hb1.size; simp at this; omega
  clear hb1 q1
  obtain ⟨cx1_1_0, cx1_1_1⟩ := x1_1.c2
  obtain ⟨lx1_1_0, lx1_1_1, lx1_1_2, lx1_1_3⟩ := lts1 x1_1.lt
  go_wp2_with fail
  (with_reducible refine (i_sign_e _ b' A' n' c' (z') (k') ?_ (-1) ?_ ?_).mono ?_); (exact h'); (exact HD.out); (omega); rintro e w2 ⟨rfl, hb2⟩
  clear cx1_1_0 cx1_1_1 lx1_1_0 lx1_1_1 lx1_1_2 lx1_1_3
  have q2 : Below w1.heap.size w1 w2 := hb2
  replace h := h.belw q2
  replace h' := h'.belw q2
  replace x1_0 := x1_0.below q2 x1_0.lt
  replace x1_1 := x1_1.below q2 x1_1.lt
  replace x1_2 := x1_2.below q2 x1_2.lt
  have bw2 : Below w.heap.size w w2 := bw1.trans (q2.mono bw1.size)
  have lw2 : w1.heap.size ≤ w2.heap.size := q2.size
  clear hb2 q2 bw1
  go_wp2_with fail
  obtain ⟨cx1_0_0, cx1_0_1⟩ := x1_0.c2
  obtain ⟨cx1_1_0, cx1_1_1⟩ := x1_1.c2
  go_cut [2] (fun s2 wx => s2 = .pointer (some ⟨w.heap.size, 0, none⟩) ∧ ∃ b8 A8 n8 c8 b9 A9 n9 c9, Blk wx (w.heap.size) 77 #[.bool b8, .slice A8 n8 c8] ∧ Blk wx (w.heap.size + 1) 77 #[.bool b9, .slice A9 n9 c9] ∧ Blk wx (w.heap.size + 1 + 1) 24 #[.bool false, .slice none 0 0, .slice none 0 0] ∧ IV wx b8 A8 n8 c8 (-z) k ∧ IV wx b9 A9 n9 c9 (-z') k' ∧ Below w.heap.size w wx ∧ w2.heap.size ≤ wx.heap.size)
  case first =>
    go_region_with (first
      | (go_at_call 79; (with_reducible refine (i_neg _ b A n c (z) (k) ?_ ?_).mono ?_); (exact h); (omega); rintro e w3 ⟨b4, A4, n4, c4, rfl, h4, hb4⟩; replace hb4 := bnext (below_drewN (brefl _) 1) hb4; replace h' := h'.belw hb4; have bw4 := bw2.trans (hb4.mono bw2.size); have lw4 := hb4.size; replace x1_0 := x1_0.below hb4 x1_0.lt; replace x1_1 := x1_1.below hb4 x1_1.lt; replace x1_2 := x1_2.below hb4 x1_2.lt; obtain ⟨dx1_1_0, dx1_1_1⟩ := x1_1.c2)
      | (go_at_call 79; (with_reducible refine (i_neg _ b' A' n' c' (z') (k') ?_ ?_).mono ?_); (exact h'); (omega); rintro e w4 ⟨b5, A5, n5, c5, rfl, h5, hb5⟩; replace h4 := h4.belw hb5; have bw5 := bw4.trans (hb5.mono bw4.size); have lw5 := hb5.size; replace x1_0 := x1_0.below hb5 x1_0.lt; replace x1_1 := x1_1.below hb5 x1_1.lt; replace x1_2 := x1_2.below hb5 x1_2.lt; obtain ⟨ex1_0_0, ex1_0_1⟩ := x1_0.c2; obtain ⟨fx1_0_0, fx1_0_1⟩ := x1_0.f2; obtain ⟨ex1_1_0, ex1_1_1⟩ := x1_1.c2; obtain ⟨fx1_1_0, fx1_1_1⟩ := x1_1.f2))
    all_goals
      go_wp2_with fail
      go_meet
      have kp := (((((Kp.refl w4).setB (p := ⟨w.heap.size, 0, none⟩) x1_0.box (by decide) (.bool b4)).setB (p := ⟨w.heap.size, 1, none⟩) (x1_0.box.set ⟨w.heap.size, 0, none⟩ (.bool b4)) (by decide) (.slice A4 n4 c4)).setB (p := ⟨w.heap.size + 1, 0, none⟩) ((x1_1.box.set ⟨w.heap.size, 0, none⟩ (.bool b4)).set ⟨w.heap.size, 1, none⟩ (.slice A4 n4 c4)) (by decide) (.bool b5)).setB (p := ⟨w.heap.size + 1, 1, none⟩) (((x1_1.box.set ⟨w.heap.size, 0, none⟩ (.bool b4)).set ⟨w.heap.size, 1, none⟩ (.slice A4 n4 c4)).set ⟨w.heap.size + 1, 0, none⟩ (.bool b5)) (by decide) (.slice A5 n5 c5))
      exact ⟨rfl, b4, A4, n4, c4, b5, A5, n5, c5, ((((x1_0.set_at 0 (.bool b4) #[.bool b4, .slice A n c] (by simp)).set_at 1 (.slice A4 n4 c4) #[.bool b4, .slice A4 n4 c4] (by simp)).far (p := ⟨w.heap.size + 1, 0, none⟩) (by dsimp only; omega) (.bool b5)).far (p := ⟨w.heap.size + 1, 1, none⟩) (by dsimp only; omega) (.slice A5 n5 c5)), ((((x1_1.far (p := ⟨w.heap.size, 0, none⟩) (by dsimp only; omega) (.bool b4)).far (p := ⟨w.heap.size, 1, none⟩) (by dsimp only; omega) (.slice A4 n4 c4)).set_at 0 (.bool b5) #[.bool b5, .slice A' n' c'] (by simp)).set_at 1 (.slice A5 n5 c5) #[.bool b5, .slice A5 n5 c5] (by simp)), ((((x1_2.far (p := ⟨w.heap.size, 0, none⟩) (by dsimp only; omega) (.bool b4)).far (p := ⟨w.heap.size, 1, none⟩) (by dsimp only; omega) (.slice A4 n4 c4)).far (p := ⟨w.heap.size + 1, 0, none⟩) (by dsimp only; omega) (.bool b5)).far (p := ⟨w.heap.size + 1, 1, none⟩) (by dsimp only; omega) (.slice A5 n5 c5)), h4.keep kp, h5.keep kp, ((((bw5.setCell (p := ⟨w.heap.size, 0, none⟩) (by dsimp only; omega) (.bool b4)).setCell (p := ⟨w.heap.size, 1, none⟩) (by dsimp only; omega) (.slice A4 n4 c4)).setCell (p := ⟨w.heap.size + 1, 0, none⟩) (by dsimp only; omega) (.bool b5)).setCell (p := ⟨w.heap.size + 1, 1, none⟩) (by dsimp only; omega) (.slice A5 n5 c5)), by simp [World.setCell]; omega⟩
  case rest =>
    clear h h'
    obtain ⟨rfl, b8, A8, n8, c8, b9, A9, n9, c9, y0, y1, y2, h8, h9, bwc, lwc⟩ := hcut
    clear x1_0 x1_1 x1_2
    have cy0_0 : wc.cell? ⟨w.heap.size, 0, none⟩ = some (.bool b8) := y0.cell 0
    have cy0_1 : wc.cell? ⟨w.heap.size, 1, none⟩ = some (.slice A8 n8 c8) := y0.cell 1
    obtain ⟨ly0_0, ly0_1, ly0_2, ly0_3⟩ := lts0 y0.lt
    have cy1_0 : wc.cell? ⟨w.heap.size + 1, 0, none⟩ = some (.bool b9) := y1.cell 0
    have cy1_1 : wc.cell? ⟨w.heap.size + 1, 1, none⟩ = some (.slice A9 n9 c9) := y1.cell 1
    obtain ⟨ly1_0, ly1_1, ly1_2, ly1_3⟩ := lts1 y1.lt
    go_wp2_with fail
    (with_reducible refine (i_gcd _ b8 A8 n8 c8 (-z) (k) ?_ b9 A9 n9 c9 (-z') (k') ?_ ?_).mono ?_); (exact h8.iz); (exact h9.iz); (first | omega | decide | assumption); rintro e w13 ⟨b13, A13, n13, c13, rfl, h13, hb13⟩
    clear cy0_0 cy0_1 ly0_0 ly0_1 ly0_2 ly0_3 cy1_0 cy1_1 ly1_0 ly1_1 ly1_2 ly1_3
    have q13 : Below wc.heap.size wc w13 := hb13
    replace h8 := h8.belw q13
    replace h9 := h9.belw q13
    replace y0 := y0.below q13 y0.lt
    replace y1 := y1.below q13 y1.lt
    replace y2 := y2.below q13 y2.lt
    have bw13 : Below w.heap.size w w13 := bwc.trans (q13.mono bwc.size)
    have lw13 : wc.heap.size ≤ w13.heap.size := q13.size
    clear hb13 q13
    obtain ⟨cy0_0, cy0_1⟩ := y0.c2
    obtain ⟨ly0_0, ly0_1, ly0_2, ly0_3⟩ := lts0 y0.lt
    go_wp2_with fail
    (with_reducible refine (i_sign_e _ b8 A8 n8 c8 (-z) (k) ?_ (-1) ?_ ?_).mono ?_); (exact (h8.belw ((Below.refl _ _).alloc (Nat.le_refl _) _)).iz); (exact HN.out); (omega); rintro e w14 ⟨rfl, hb14⟩
    clear cy0_0 cy0_1 ly0_0 ly0_1 ly0_2 ly0_3
    have q14 : Below w13.heap.size w13 w14 := ((Below.refl _ _).alloc (Nat.le_refl _) _).trans (hb14.mono (by simp))
    replace h8 := h8.belw q14
    replace h9 := h9.belw q14
    replace h13 := h13.belw q14
    replace y0 := y0.below q14 y0.lt
    replace y1 := y1.below q14 y1.lt
    replace y2 := y2.below q14 y2.lt
    have x14_0 : Blk w14 (w13.heap.size) 77 #[.bool b13, .slice A13 n13 c13] := (blkAt _ _ _ (by simp)).below hb14 (by simp)
    have bw14 : Below w.heap.size w w14 := bw13.trans (q14.mono bw13.size)
    have lw14 : w13.heap.size + 1 ≤ w14.heap.size := by have := hb14.size; simp at this; omega
    clear hb14 q14 bw13
    obtain ⟨cy0_0, cy0_1⟩ := y0.c2
    obtain ⟨ly0_0, ly0_1, ly0_2, ly0_3⟩ := lts0 y0.lt
    go_wp2_with fail
    (with_reducible refine (i_neg _ b8 A8 n8 c8 (-z) (k) ?_ ?_).mono ?_); (exact h8.iz); (first | omega | decide | assumption); rintro e w15 ⟨b15, A15, n15, c15, rfl, h15, hb15⟩
    clear cy0_0 cy0_1 ly0_0 ly0_1 ly0_2 ly0_3
    have q15 : Below w14.heap.size w14 w15 := hb15
    replace h8 := h8.belw q15
    replace h9 := h9.belw q15
    replace h13 := h13.belw q15
    replace y0 := y0.below q15 y0.lt
    replace y1 := y1.below q15 y1.lt
    replace y2 := y2.below q15 y2.lt
    replace x14_0 := x14_0.below q15 x14_0.lt
    have bw15 : Below w.heap.size w w15 := bw14.trans (q15.mono bw14.size)
    have lw15 : w14.heap.size ≤ w15.heap.size := q15.size
    clear hb15 q15 bw14
    obtain ⟨cy0_0, cy0_1⟩ := y0.c2
    obtain ⟨fy0_0, fy0_1⟩ := y0.f2
    obtain ⟨ly0_0, ly0_1, ly0_2, ly0_3⟩ := lts0 y0.lt
    obtain ⟨cx14_0_0, cx14_0_1⟩ := x14_0.c2
    obtain ⟨lx14_0_0, lx14_0_1, lx14_0_2, lx14_0_3⟩ := lts0 x14_0.lt
    go_wp2_with fail
    clear cy0_0 fy0_0 cy0_1 fy0_1 ly0_0 ly0_1 ly0_2 ly0_3 cx14_0_0 cx14_0_1 lx14_0_0 lx14_0_1 lx14_0_2 lx14_0_3
    have p16 : Kp w15 ((w15.setCell ⟨w.heap.size, 0, none⟩ (.bool b15)).setCell ⟨w.heap.size, 1, none⟩ (.slice A15 n15 c15)) := (((Kp.refl w15).setB (p := ⟨w.heap.size, 0, none⟩) y0.box (by decide) (.bool b15)).setB (p := ⟨w.heap.size, 1, none⟩) (y0.box.set ⟨w.heap.size, 0, none⟩ (.bool b15)) (by decide) (.slice A15 n15 c15))
    have bw16 : Below w.heap.size w ((w15.setCell ⟨w.heap.size, 0, none⟩ (.bool b15)).setCell ⟨w.heap.size, 1, none⟩ (.slice A15 n15 c15)) := ((bw15.setCell (p := ⟨w.heap.size, 0, none⟩) (by dsimp only; omega) (.bool b15)).setCell (p := ⟨w.heap.size, 1, none⟩) (by dsimp only; omega) (.slice A15 n15 c15))
    replace y0 : Blk ((w15.setCell ⟨w.heap.size, 0, none⟩ (.bool b15)).setCell ⟨w.heap.size, 1, none⟩ (.slice A15 n15 c15)) (w.heap.size) 77 #[.bool b15, .slice A15 n15 c15] := ((y0.set_at 0 (.bool b15) #[.bool b15, .slice A8 n8 c8] (by simp)).set_at 1 (.slice A15 n15 c15) #[.bool b15, .slice A15 n15 c15] (by simp))
    replace y1 : Blk ((w15.setCell ⟨w.heap.size, 0, none⟩ (.bool b15)).setCell ⟨w.heap.size, 1, none⟩ (.slice A15 n15 c15)) (w.heap.size + 1) 77 #[.bool b9, .slice A9 n9 c9] := ((y1.far (p := ⟨w.heap.size, 0, none⟩) (by dsimp only; omega) (.bool b15)).far (p := ⟨w.heap.size, 1, none⟩) (by dsimp only; omega) (.slice A15 n15 c15))
    replace y2 : Blk ((w15.setCell ⟨w.heap.size, 0, none⟩ (.bool b15)).setCell ⟨w.heap.size, 1, none⟩ (.slice A15 n15 c15)) (w.heap.size + 1 + 1) 24 #[.bool false, .slice none 0 0, .slice none 0 0] := ((y2.far (p := ⟨w.heap.size, 0, none⟩) (by dsimp only; omega) (.bool b15)).far (p := ⟨w.heap.size, 1, none⟩) (by dsimp only; omega) (.slice A15 n15 c15))
    replace x14_0 : Blk ((w15.setCell ⟨w.heap.size, 0, none⟩ (.bool b15)).setCell ⟨w.heap.size, 1, none⟩ (.slice A15 n15 c15)) (w13.heap.size) 77 #[.bool b13, .slice A13 n13 c13] := ((x14_0.far (p := ⟨w.heap.size, 0, none⟩) (by dsimp only; omega) (.bool b15)).far (p := ⟨w.heap.size, 1, none⟩) (by dsimp only; omega) (.slice A15 n15 c15))
    have lw16 : w15.heap.size + 0 ≤ ((w15.setCell ⟨w.heap.size, 0, none⟩ (.bool b15)).setCell ⟨w.heap.size, 1, none⟩ (.slice A15 n15 c15)).heap.size := by simp
    generalize hE16 : ((w15.setCell ⟨w.heap.size, 0, none⟩ (.bool b15)).setCell ⟨w.heap.size, 1, none⟩ (.slice A15 n15 c15)) = w16 at p16 bw16 lw16 y0 y1 y2 x14_0 ⊢
    clear hE16
    replace h8 := h8.keep p16
    replace h9 := h9.keep p16
    replace h13 := h13.keep p16
    replace h15 := h15.keep p16
    clear bw15
    (with_reducible refine (i_div _ b15 A15 n15 c15 (-(-z)) ((k)) ?_ b13 A13 n13 c13 ((Nat.gcd ((-z)).natAbs ((-z')).natAbs : Nat)) ((k) + (k')) ?_  ?_ ?_).mono ?_); (exact h15.iz); (exact h13.iz); (omega); (exact HG.out); rintro e w17 ⟨b17, A17, n17, c17, b'17, A'17, n'17, c'17, rfl, h17, h'17, hb17⟩
    have q17 : Below w16.heap.size w16 w17 := hb17
    replace h8 := h8.belw q17
    replace h9 := h9.belw q17
    replace h13 := h13.belw q17
    replace h15 := h15.belw q17
    replace y0 := y0.below q17 y0.lt
    replace y1 := y1.below q17 y1.lt
    replace y2 := y2.below q17 y2.lt
    replace x14_0 := x14_0.below q17 x14_0.lt
    have bw17 : Below w.heap.size w w17 := bw16.trans (q17.mono bw16.size)
    have lw17 : w16.heap.size ≤ w17.heap.size := q17.size
    clear hb17 q17 bw16
    obtain ⟨cy0_0, cy0_1⟩ := y0.c2
    obtain ⟨fy0_0, fy0_1⟩ := y0.f2
    obtain ⟨ly0_0, ly0_1, ly0_2, ly0_3⟩ := lts0 y0.lt
    obtain ⟨cy1_0, cy1_1⟩ := y1.c2
    obtain ⟨ly1_0, ly1_1, ly1_2, ly1_3⟩ := lts1 y1.lt
    obtain ⟨cx14_0_0, cx14_0_1⟩ := x14_0.c2
    obtain ⟨lx14_0_0, lx14_0_1, lx14_0_2, lx14_0_3⟩ := lts0 x14_0.lt
    go_wp2_with fail
    clear cy0_0 fy0_0 cy0_1 fy0_1 ly0_0 ly0_1 ly0_2 ly0_3 cy1_0 cy1_1 ly1_0 ly1_1 ly1_2 ly1_3 cx14_0_0 cx14_0_1 lx14_0_0 lx14_0_1 lx14_0_2 lx14_0_3
    have p18 : Kp w17 ((w17.setCell ⟨w.heap.size, 0, none⟩ (.bool b17)).setCell ⟨w.heap.size, 1, none⟩ (.slice A17 n17 c17)) := (((Kp.refl w17).setB (p := ⟨w.heap.size, 0, none⟩) y0.box (by decide) (.bool b17)).setB (p := ⟨w.heap.size, 1, none⟩) (y0.box.set ⟨w.heap.size, 0, none⟩ (.bool b17)) (by decide) (.slice A17 n17 c17))
    have bw18 : Below w.heap.size w ((w17.setCell ⟨w.heap.size, 0, none⟩ (.bool b17)).setCell ⟨w.heap.size, 1, none⟩ (.slice A17 n17 c17)) := ((bw17.setCell (p := ⟨w.heap.size, 0, none⟩) (by dsimp only; omega) (.bool b17)).setCell (p := ⟨w.heap.size, 1, none⟩) (by dsimp only; omega) (.slice A17 n17 c17))
    replace y0 : Blk ((w17.setCell ⟨w.heap.size, 0, none⟩ (.bool b17)).setCell ⟨w.heap.size, 1, none⟩ (.slice A17 n17 c17)) (w.heap.size) 77 #[.bool b17, .slice A17 n17 c17] := ((y0.set_at 0 (.bool b17) #[.bool b17, .slice A15 n15 c15] (by simp)).set_at 1 (.slice A17 n17 c17) #[.bool b17, .slice A17 n17 c17] (by simp))
    replace y1 : Blk ((w17.setCell ⟨w.heap.size, 0, none⟩ (.bool b17)).setCell ⟨w.heap.size, 1, none⟩ (.slice A17 n17 c17)) (w.heap.size + 1) 77 #[.bool b9, .slice A9 n9 c9] := ((y1.far (p := ⟨w.heap.size, 0, none⟩) (by dsimp only; omega) (.bool b17)).far (p := ⟨w.heap.size, 1, none⟩) (by dsimp only; omega) (.slice A17 n17 c17))
    replace y2 : Blk ((w17.setCell ⟨w.heap.size, 0, none⟩ (.bool b17)).setCell ⟨w.heap.size, 1, none⟩ (.slice A17 n17 c17)) (w.heap.size + 1 + 1) 24 #[.bool false, .slice none 0 0, .slice none 0 0] := ((y2.far (p := ⟨w.heap.size, 0, none⟩) (by dsimp only; omega) (.bool b17)).far (p := ⟨w.heap.size, 1, none⟩) (by dsimp only; omega) (.slice A17 n17 c17))
    replace x14_0 : Blk ((w17.setCell ⟨w.heap.size, 0, none⟩ (.bool b17)).setCell ⟨w.heap.size, 1, none⟩ (.slice A17 n17 c17)) (w13.heap.size) 77 #[.bool b13, .slice A13 n13 c13] := ((x14_0.far (p := ⟨w.heap.size, 0, none⟩) (by dsimp only; omega) (.bool b17)).far (p := ⟨w.heap.size, 1, none⟩) (by dsimp only; omega) (.slice A17 n17 c17))
    have lw18 : w17.heap.size + 0 ≤ ((w17.setCell ⟨w.heap.size, 0, none⟩ (.bool b17)).setCell ⟨w.heap.size, 1, none⟩ (.slice A17 n17 c17)).heap.size := by simp
    generalize hE18 : ((w17.setCell ⟨w.heap.size, 0, none⟩ (.bool b17)).setCell ⟨w.heap.size, 1, none⟩ (.slice A17 n17 c17)) = w18 at p18 bw18 lw18 y0 y1 y2 x14_0 ⊢
    clear hE18
    replace h8 := h8.keep p18
    replace h9 := h9.keep p18
    replace h13 := h13.keep p18
    replace h15 := h15.keep p18
    replace h17 := h17.keep p18
    replace h'17 := h'17.keep p18
    clear bw17
    (with_reducible refine (i_div _ b9 A9 n9 c9 (-z') (k') ?_ b13 A13 n13 c13 ((Nat.gcd ((-z)).natAbs ((-z')).natAbs : Nat)) ((k) + (k')) ?_  ?_ ?_).mono ?_); (exact h9.iz); (exact h13.iz); (omega); (exact HG.out); rintro e w19 ⟨b19, A19, n19, c19, b'19, A'19, n'19, c'19, rfl, h19, h'19, hb19⟩
    have q19 : Below w18.heap.size w18 w19 := hb19
    replace h8 := h8.belw q19
    replace h9 := h9.belw q19
    replace h13 := h13.belw q19
    replace h15 := h15.belw q19
    replace h17 := h17.belw q19
    replace h'17 := h'17.belw q19
    replace y0 := y0.below q19 y0.lt
    replace y1 := y1.below q19 y1.lt
    replace y2 := y2.below q19 y2.lt
    replace x14_0 := x14_0.below q19 x14_0.lt
    have bw19 : Below w.heap.size w w19 := bw18.trans (q19.mono bw18.size)
    have lw19 : w18.heap.size ≤ w19.heap.size := q19.size
    clear hb19 q19 bw18
    obtain ⟨cy0_0, cy0_1⟩ := y0.c2
    obtain ⟨ly0_0, ly0_1, ly0_2, ly0_3⟩ := lts0 y0.lt
    obtain ⟨cy1_0, cy1_1⟩ := y1.c2
    obtain ⟨fy1_0, fy1_1⟩ := y1.f2
    obtain ⟨ly1_0, ly1_1, ly1_2, ly1_3⟩ := lts1 y1.lt
    obtain ⟨cy2_0, cy2_1, cy2_2⟩ := y2.c3
    obtain ⟨fy2_0, fy2_1, fy2_2⟩ := y2.f3
    obtain ⟨ly2_0, ly2_1, ly2_2, ly2_3⟩ := lts2 y2.lt
    go_wp2_with fail
    refine bodyPost_ret (v := .agg #[.bool true, .slice A17 n17 c17, .slice A19 n19 c19]) (by simp [results, Tryz.results62, go_sem, *] <;> first | rfl | exact ⟨rfl, rfl⟩) rfl ?_
    obtain ⟨e1, e2, e3⟩ := form_neg HN.out HP.out HQ.out
    exact ⟨_, _, _, _, _, _, _, rfl, QV.mk_ (by rw [e1]; exact h17.2.1.keep ((((((Kp.refl w19).setB (p := ⟨w.heap.size + 1, 0, none⟩) y1.box (by decide) (.bool b19)).setB (p := ⟨w.heap.size + 1, 1, none⟩) (y1.box.set ⟨w.heap.size + 1, 0, none⟩ (.bool b19)) (by decide) (.slice A19 n19 c19)).setB (p := ⟨w.heap.size + 1 + 1, 0, none⟩) ((y2.box.set ⟨w.heap.size + 1, 0, none⟩ (.bool b19)).set ⟨w.heap.size + 1, 1, none⟩ (.slice A19 n19 c19)) (by decide) (.bool true)).setB (p := ⟨w.heap.size + 1 + 1, 1, none⟩) (((y2.box.set ⟨w.heap.size + 1, 0, none⟩ (.bool b19)).set ⟨w.heap.size + 1, 1, none⟩ (.slice A19 n19 c19)).set ⟨w.heap.size + 1 + 1, 0, none⟩ (.bool true)) (by decide) (.slice A17 n17 c17)).setB (p := ⟨w.heap.size + 1 + 1, 2, none⟩) ((((y2.box.set ⟨w.heap.size + 1, 0, none⟩ (.bool b19)).set ⟨w.heap.size + 1, 1, none⟩ (.slice A19 n19 c19)).set ⟨w.heap.size + 1 + 1, 0, none⟩ (.bool true)).set ⟨w.heap.size + 1 + 1, 1, none⟩ (.slice A17 n17 c17)) (by decide) (.slice A19 n19 c19))) (by rw [e2]; exact h19.2.1.keep ((((((Kp.refl w19).setB (p := ⟨w.heap.size + 1, 0, none⟩) y1.box (by decide) (.bool b19)).setB (p := ⟨w.heap.size + 1, 1, none⟩) (y1.box.set ⟨w.heap.size + 1, 0, none⟩ (.bool b19)) (by decide) (.slice A19 n19 c19)).setB (p := ⟨w.heap.size + 1 + 1, 0, none⟩) ((y2.box.set ⟨w.heap.size + 1, 0, none⟩ (.bool b19)).set ⟨w.heap.size + 1, 1, none⟩ (.slice A19 n19 c19)) (by decide) (.bool true)).setB (p := ⟨w.heap.size + 1 + 1, 1, none⟩) (((y2.box.set ⟨w.heap.size + 1, 0, none⟩ (.bool b19)).set ⟨w.heap.size + 1, 1, none⟩ (.slice A19 n19 c19)).set ⟨w.heap.size + 1 + 1, 0, none⟩ (.bool true)) (by decide) (.slice A17 n17 c17)).setB (p := ⟨w.heap.size + 1 + 1, 2, none⟩) ((((y2.box.set ⟨w.heap.size + 1, 0, none⟩ (.bool b19)).set ⟨w.heap.size + 1, 1, none⟩ (.slice A19 n19 c19)).set ⟨w.heap.size + 1 + 1, 0, none⟩ (.bool true)).set ⟨w.heap.size + 1 + 1, 1, none⟩ (.slice A17 n17 c17)) (by decide) (.slice A19 n19 c19))) e3 HS.out, (((((bw19.setCell (p := ⟨w.heap.size + 1, 0, none⟩) (by dsimp only; omega) (.bool b19)).setCell (p := ⟨w.heap.size + 1, 1, none⟩) (by dsimp only; omega) (.slice A19 n19 c19)).setCell (p := ⟨w.heap.size + 1 + 1, 0, none⟩) (by dsimp only; omega) (.bool true)).setCell (p := ⟨w.heap.size + 1 + 1, 1, none⟩) (by dsimp only; omega) (.slice A17 n17 c17)).setCell (p := ⟨w.heap.size + 1 + 1, 2, none⟩) (by dsimp only; omega) (.slice A19 n19 c19))⟩
set_option maxHeartbeats 2000000 in
/-- fraction.form -/
theorem f_form_nn (w : World) (b : Bool) (A : Option Addr) (n c : Nat) (z : Int) (k : Nat) (h : IZ w b A n c z k) (b' : Bool) (A' : Option Addr) (n' c' : Nat) (z' : Int) (k' : Nat) (h' : IZ w b' A' n' c' z' k') (q : Rat) (K : Nat) (hz : z.sign = -1) (hd : z'.sign = -1) (hq : Rat.divInt z z' = q) (hs : Sz q K) (hk : k + k' ≤ 300000000) :
    Calls Tryz.prog 62 #[.agg #[.bool b, .slice A n c], .agg #[.bool b', .slice A' n' c']] w (RetF w q K) := by
  have HZ := Lib.hid hz
  have HD := Lib.hid hd
  have HN := Lib.hid (show ((-z)).sign = 1 by rw [Int.sign_neg, hz] <;> rfl)
  have HP := Lib.hid (show 0 < (-z') by exact sign_neg_ hd)
  have HG := Lib.hid (show ((Nat.gcd ((-z)).natAbs ((-z')).natAbs : Nat) : Int) ≠ 0 from gcd_ne HP.out)
  have HQ := Lib.hid (show Rat.divInt (-z) (-z') = q by rw [divInt_neg_neg _ _ (sign_ne hd)]; exact hq)
  have HS := Lib.hid hs
  clear hz hd hq hs
  go_enter Tryz.func62, Tryz.ntmps62
  go_wp2_with fail
  (with_reducible refine (i_sign_e _ b A n c (z) (k) ?_ (-1) ?_ ?_).mono ?_); (exact (h.belw ((((Below.refl _ _).alloc (Nat.le_refl _) _).alloc (by simp) _).alloc (by simp <;> omega) _))); (exact HZ.out); (omega); rintro e w1 ⟨rfl, hb1⟩
  have q1 : Below w.heap.size w w1 := ((((Below.refl _ _).alloc (Nat.le_refl _) _).alloc (by simp) _).alloc (by simp <;> omega) _).trans (hb1.mono (by simp <;> omega))
  replace h := h.belw q1
  replace h' := h'.belw q1
  have x1_0 : Blk w1 (w.heap.size) 77 #[.bool b, .slice A n c] := (((blkAt _ _ _ (by simp)).alloc _).alloc _).below hb1 (by simp <;> omega)
  have x1_1 : Blk w1 (w.heap.size + 1) 77 #[.bool b', .slice A' n' c'] := ((blkAt _ _ _ (by simp)).alloc _).below hb1 (by simp <;> omega)
  have x1_2 : Blk w1 (w.heap.size + 1 + 1) 24 #[.bool false, .slice none 0 0, .slice none 0 0] := (blkAt _ _ _ (by simp)).below hb1 (by simp)
  have bw1 : Below w.heap.size w w1 := (brefl w).trans (q1.mono (brefl w).size)
  have lw1 : w.heap.size + 3 ≤ w1.heap.size := by have := hb1.size; simp at this; omega
  clear hb1 q1
  obtain ⟨cx1_1_0, cx1_1_1⟩ := x1_1.c2
  obtain ⟨lx1_1_0, lx1_1_1, lx1_1_2, lx1_1_3⟩ := lts1 x1_1.lt
  go_wp2_with fail
  (with_reducible refine (i_sign_e _ b' A' n' c' (z') (k') ?_ (-1) ?_ ?_).mono ?_); (exact h'); (exact HD.out); (omega); rintro e w2 ⟨rfl, hb2⟩
  clear cx1_1_0 cx1_1_1 lx1_1_0 lx1_1_1 lx1_1_2 lx1_1_3
  have q2 : Below w1.heap.size w1 w2 := hb2
  replace h := h.belw q2
  replace h' := h'.belw q2
  replace x1_0 := x1_0.below q2 x1_0.lt
  replace x1_1 := x1_1.below q2 x1_1.lt
  replace x1_2 := x1_2.below q2 x1_2.lt
  have bw2 : Below w.heap.size w w2 := bw1.trans (q2.mono bw1.size)
  have lw2 : w1.heap.size ≤ w2.heap.size := q2.size
  clear hb2 q2 bw1
  go_wp2_with fail
  obtain ⟨cx1_0_0, cx1_0_1⟩ := x1_0.c2
  obtain ⟨cx1_1_0, cx1_1_1⟩ := x1_1.c2
  go_cut [2] (fun s2 wx => s2 = .pointer (some ⟨w.heap.size, 0, none⟩) ∧ ∃ b8 A8 n8 c8 b9 A9 n9 c9, Blk wx (w.heap.size) 77 #[.bool b8, .slice A8 n8 c8] ∧ Blk wx (w.heap.size + 1) 77 #[.bool b9, .slice A9 n9 c9] ∧ Blk wx (w.heap.size + 1 + 1) 24 #[.bool false, .slice none 0 0, .slice none 0 0] ∧ IV wx b8 A8 n8 c8 (-z) k ∧ IV wx b9 A9 n9 c9 (-z') k' ∧ Below w.heap.size w wx ∧ w2.heap.size ≤ wx.heap.size)
  case first =>
    go_region_with (first
      | (go_at_call 79; (with_reducible refine (i_neg _ b A n c (z) (k) ?_ ?_).mono ?_); (exact h); (omega); rintro e w3 ⟨b4, A4, n4, c4, rfl, h4, hb4⟩; replace hb4 := bnext (below_drewN (brefl _) 1) hb4; replace h' := h'.belw hb4; have bw4 := bw2.trans (hb4.mono bw2.size); have lw4 := hb4.size; replace x1_0 := x1_0.below hb4 x1_0.lt; replace x1_1 := x1_1.below hb4 x1_1.lt; replace x1_2 := x1_2.below hb4 x1_2.lt; obtain ⟨dx1_1_0, dx1_1_1⟩ := x1_1.c2)
      | (go_at_call 79; (with_reducible refine (i_neg _ b' A' n' c' (z') (k') ?_ ?_).mono ?_); (exact h'); (omega); rintro e w4 ⟨b5, A5, n5, c5, rfl, h5, hb5⟩; replace h4 := h4.belw hb5; have bw5 := bw4.trans (hb5.mono bw4.size); have lw5 := hb5.size; replace x1_0 := x1_0.below hb5 x1_0.lt; replace x1_1 := x1_1.below hb5 x1_1.lt; replace x1_2 := x1_2.below hb5 x1_2.lt; obtain ⟨ex1_0_0, ex1_0_1⟩ := x1_0.c2; obtain ⟨fx1_0_0, fx1_0_1⟩ := x1_0.f2; obtain ⟨ex1_1_0, ex1_1_1⟩ := x1_1.c2; obtain ⟨fx1_1_0, fx1_1_1⟩ := x1_1.f2))
    all_goals
      go_wp2_with fail
      go_meet
      have kp := (((((Kp.refl w4).setB (p := ⟨w.heap.size, 0, none⟩) x1_0.box (by decide) (.bool b4)).setB (p := ⟨w.heap.size, 1, none⟩) (x1_0.box.set ⟨w.heap.size, 0, none⟩ (.bool b4)) (by decide) (.slice A4 n4 c4)).setB (p := ⟨w.heap.size + 1, 0, none⟩) ((x1_1.box.set ⟨w.heap.size, 0, none⟩ (.bool b4)).set ⟨w.heap.size, 1, none⟩ (.slice A4 n4 c4)) (by decide) (.bool b5)).setB (p := ⟨w.heap.size + 1, 1, none⟩) (((x1_1.box.set ⟨w.heap.size, 0, none⟩ (.bool b4)).set ⟨w.heap.size, 1, none⟩ (.slice A4 n4 c4)).set ⟨w.heap.size + 1, 0, none⟩ (.bool b5)) (by decide) (.slice A5 n5 c5))
      exact ⟨rfl, b4, A4, n4, c4, b5, A5, n5, c5, ((((x1_0.set_at 0 (.bool b4) #[.bool b4, .slice A n c] (by simp)).set_at 1 (.slice A4 n4 c4) #[.bool b4, .slice A4 n4 c4] (by simp)).far (p := ⟨w.heap.size + 1, 0, none⟩) (by dsimp only; omega) (.bool b5)).far (p := ⟨w.heap.size + 1, 1, none⟩) (by dsimp only; omega) (.slice A5 n5 c5)), ((((x1_1.far (p := ⟨w.heap.size, 0, none⟩) (by dsimp only; omega) (.bool b4)).far (p := ⟨w.heap.size, 1, none⟩) (by dsimp only; omega) (.slice A4 n4 c4)).set_at 0 (.bool b5) #[.bool b5, .slice A' n' c'] (by simp)).set_at 1 (.slice A5 n5 c5) #[.bool b5, .slice A5 n5 c5] (by simp)), ((((x1_2.far (p := ⟨w.heap.size, 0, none⟩) (by dsimp only; omega) (.bool b4)).far (p := ⟨w.heap.size, 1, none⟩) (by dsimp only; omega) (.slice A4 n4 c4)).far (p := ⟨w.heap.size + 1, 0, none⟩) (by dsimp only; omega) (.bool b5)).far (p := ⟨w.heap.size + 1, 1, none⟩) (by dsimp only; omega) (.slice A5 n5 c5)), h4.keep kp, h5.keep kp, ((((bw5.setCell (p := ⟨w.heap.size, 0, none⟩) (by dsimp only; omega) (.bool b4)).setCell (p := ⟨w.heap.size, 1, none⟩) (by dsimp only; omega) (.slice A4 n4 c4)).setCell (p := ⟨w.heap.size + 1, 0, none⟩) (by dsimp only; omega) (.bool b5)).setCell (p := ⟨w.heap.size + 1, 1, none⟩) (by dsimp only; omega) (.slice A5 n5 c5)), by simp [World.setCell]; omega⟩
  case rest =>
    clear h h'
    obtain ⟨rfl, b8, A8, n8, c8, b9, A9, n9, c9, y0, y1, y2, h8, h9, bwc, lwc⟩ := hcut
    clear x1_0 x1_1 x1_2
    obtain ⟨cy0_0, cy0_1⟩ := y0.c2
    obtain ⟨ly0_0, ly0_1, ly0_2, ly0_3⟩ := lts0 y0.lt
    obtain ⟨cy1_0, cy1_1⟩ := y1.c2
    obtain ⟨ly1_0, ly1_1, ly1_2, ly1_3⟩ := lts1 y1.lt
    go_wp2_with fail
    (with_reducible refine (i_gcd _ b8 A8 n8 c8 (-z) (k) ?_ b9 A9 n9 c9 (-z') (k') ?_ ?_).mono ?_); (exact h8.iz); (exact h9.iz); (first | omega | decide | assumption); rintro e w13 ⟨b13, A13, n13, c13, rfl, h13, hb13⟩
    clear cy0_0 cy0_1 ly0_0 ly0_1 ly0_2 ly0_3 cy1_0 cy1_1 ly1_0 ly1_1 ly1_2 ly1_3
    have q13 : Below wc.heap.size wc w13 := hb13
    replace h8 := h8.belw q13
    replace h9 := h9.belw q13
    replace y0 := y0.below q13 y0.lt
    replace y1 := y1.below q13 y1.lt
    replace y2 := y2.below q13 y2.lt
    have bw13 : Below w.heap.size w w13 := bwc.trans (q13.mono bwc.size)
    have lw13 : wc.heap.size ≤ w13.heap.size := q13.size
    clear hb13 q13
    obtain ⟨cy0_0, cy0_1⟩ := y0.c2
    obtain ⟨ly0_0, ly0_1, ly0_2, ly0_3⟩ := lts0 y0.lt
    go_wp2_with fail
    (with_reducible refine (i_sign_e _ b8 A8 n8 c8 (-z) (k) ?_ (1) ?_ ?_).mono ?_); (exact (h8.belw ((Below.refl _ _).alloc (Nat.le_refl _) _)).iz); (exact HN.out); (omega); rintro e w14 ⟨rfl, hb14⟩
    clear cy0_0 cy0_1 ly0_0 ly0_1 ly0_2 ly0_3
    have q14 : Below w13.heap.size w13 w14 := ((Below.refl _ _).alloc (Nat.le_refl _) _).trans (hb14.mono (by simp))
    replace h8 := h8.belw q14
    replace h9 := h9.belw q14
    replace h13 := h13.belw q14
    replace y0 := y0.below q14 y0.lt
    replace y1 := y1.below q14 y1.lt
    replace y2 := y2.below q14 y2.lt
    have x14_0 : Blk w14 (w13.heap.size) 77 #[.bool b13, .slice A13 n13 c13] := (blkAt _ _ _ (by simp)).below hb14 (by simp)
    have bw14 : Below w.heap.size w w14 := bw13.trans (q14.mono bw13.size)
    have lw14 : w13.heap.size + 1 ≤ w14.heap.size := by have := hb14.size; simp at this; omega
    clear hb14 q14 bw13
    obtain ⟨cy0_0, cy0_1⟩ := y0.c2
    obtain ⟨ly0_0, ly0_1, ly0_2, ly0_3⟩ := lts0 y0.lt
    obtain ⟨cx14_0_0, cx14_0_1⟩ := x14_0.c2
    obtain ⟨lx14_0_0, lx14_0_1, lx14_0_2, lx14_0_3⟩ := lts0 x14_0.lt
    go_wp2_with fail
    (with_reducible refine (i_div _ b8 A8 n8 c8 (-z) (k) ?_ b13 A13 n13 c13 ((Nat.gcd ((-z)).natAbs ((-z')).natAbs : Nat)) ((k) + (k')) ?_  ?_ ?_).mono ?_); (exact h8.iz); (exact h13.iz); (omega); (exact HG.out); rintro e w15 ⟨b15, A15, n15, c15, b'15, A'15, n'15, c'15, rfl, h15, h'15, hb15⟩
    clear cy0_0 cy0_1 ly0_0 ly0_1 ly0_2 ly0_3 cx14_0_0 cx14_0_1 lx14_0_0 lx14_0_1 lx14_0_2 lx14_0_3
    have q15 : Below w14.heap.size w14 w15 := hb15
    replace h8 := h8.belw q15
    replace h9 := h9.belw q15
    replace h13 := h13.belw q15
    replace y0 := y0.below q15 y0.lt
    replace y1 := y1.below q15 y1.lt
    replace y2 := y2.below q15 y2.lt
    replace x14_0 := x14_0.below q15 x14_0.lt
    have bw15 : Below w.heap.size w w15 := bw14.trans (q15.mono bw14.size)
    have lw15 : w14.heap.size ≤ w15.heap.size := q15.size
    clear hb15 q15 bw14
    obtain ⟨cy0_0, cy0_1⟩ := y0.c2
    obtain ⟨fy0_0, fy0_1⟩ := y0.f2
    obtain ⟨ly0_0, ly0_1, ly0_2, ly0_3⟩ := lts0 y0.lt
    obtain ⟨cy1_0, cy1_1⟩ := y1.c2
    obtain ⟨ly1_0, ly1_1, ly1_2, ly1_3⟩ := lts1 y1.lt
    obtain ⟨cx14_0_0, cx14_0_1⟩ := x14_0.c2
    obtain ⟨lx14_0_0, lx14_0_1, lx14_0_2, lx14_0_3⟩ := lts0 x14_0.lt
    go_wp2_with fail
    clear cy0_0 fy0_0 cy0_1 fy0_1 ly0_0 ly0_1 ly0_2 ly0_3 cy1_0 cy1_1 ly1_0 ly1_1 ly1_2 ly1_3 cx14_0_0 cx14_0_1 lx14_0_0 lx14_0_1 lx14_0_2 lx14_0_3
    have p16 : Kp w15 ((w15.setCell ⟨w.heap.size, 0, none⟩ (.bool b15)).setCell ⟨w.heap.size, 1, none⟩ (.slice A15 n15 c15)) := (((Kp.refl w15).setB (p := ⟨w.heap.size, 0, none⟩) y0.box (by decide) (.bool b15)).setB (p := ⟨w.heap.size, 1, none⟩) (y0.box.set ⟨w.heap.size, 0, none⟩ (.bool b15)) (by decide) (.slice A15 n15 c15))
    have bw16 : Below w.heap.size w ((w15.setCell ⟨w.heap.size, 0, none⟩ (.bool b15)).setCell ⟨w.heap.size, 1, none⟩ (.slice A15 n15 c15)) := ((bw15.setCell (p := ⟨w.heap.size, 0, none⟩) (by dsimp only; omega) (.bool b15)).setCell (p := ⟨w.heap.size, 1, none⟩) (by dsimp only; omega) (.slice A15 n15 c15))
    replace y0 : Blk ((w15.setCell ⟨w.heap.size, 0, none⟩ (.bool b15)).setCell ⟨w.heap.size, 1, none⟩ (.slice A15 n15 c15)) (w.heap.size) 77 #[.bool b15, .slice A15 n15 c15] := ((y0.set_at 0 (.bool b15) #[.bool b15, .slice A8 n8 c8] (by simp)).set_at 1 (.slice A15 n15 c15) #[.bool b15, .slice A15 n15 c15] (by simp))
    replace y1 : Blk ((w15.setCell ⟨w.heap.size, 0, none⟩ (.bool b15)).setCell ⟨w.heap.size, 1, none⟩ (.slice A15 n15 c15)) (w.heap.size + 1) 77 #[.bool b9, .slice A9 n9 c9] := ((y1.far (p := ⟨w.heap.size, 0, none⟩) (by dsimp only; omega) (.bool b15)).far (p := ⟨w.heap.size, 1, none⟩) (by dsimp only; omega) (.slice A15 n15 c15))
    replace y2 : Blk ((w15.setCell ⟨w.heap.size, 0, none⟩ (.bool b15)).setCell ⟨w.heap.size, 1, none⟩ (.slice A15 n15 c15)) (w.heap.size + 1 + 1) 24 #[.bool false, .slice none 0 0, .slice none 0 0] := ((y2.far (p := ⟨w.heap.size, 0, none⟩) (by dsimp only; omega) (.bool b15)).far (p := ⟨w.heap.size, 1, none⟩) (by dsimp only; omega) (.slice A15 n15 c15))
    replace x14_0 : Blk ((w15.setCell ⟨w.heap.size, 0, none⟩ (.bool b15)).setCell ⟨w.heap.size, 1, none⟩ (.slice A15 n15 c15)) (w13.heap.size) 77 #[.bool b13, .slice A13 n13 c13] := ((x14_0.far (p := ⟨w.heap.size, 0, none⟩) (by dsimp only; omega) (.bool b15)).far (p := ⟨w.heap.size, 1, none⟩) (by dsimp only; omega) (.slice A15 n15 c15))
    have lw16 : w15.heap.size + 0 ≤ ((w15.setCell ⟨w.heap.size, 0, none⟩ (.bool b15)).setCell ⟨w.heap.size, 1, none⟩ (.slice A15 n15 c15)).heap.size := by simp
    generalize hE16 : ((w15.setCell ⟨w.heap.size, 0, none⟩ (.bool b15)).setCell ⟨w.heap.size, 1, none⟩ (.slice A15 n15 c15)) = w16 at p16 bw16 lw16 y0 y1 y2 x14_0 ⊢
    clear hE16
    replace h8 := h8.keep p16
    replace h9 := h9.keep p16
    replace h13 := h13.keep p16
    replace h15 := h15.keep p16
    replace h'15 := h'15.keep p16
    clear bw15
    (with_reducible refine (i_div _ b9 A9 n9 c9 (-z') (k') ?_ b13 A13 n13 c13 ((Nat.gcd ((-z)).natAbs ((-z')).natAbs : Nat)) ((k) + (k')) ?_  ?_ ?_).mono ?_); (exact h9.iz); (exact h13.iz); (omega); (exact HG.out); rintro e w17 ⟨b17, A17, n17, c17, b'17, A'17, n'17, c'17, rfl, h17, h'17, hb17⟩
    have q17 : Below w16.heap.size w16 w17 := hb17
    replace h8 := h8.belw q17
    replace h9 := h9.belw q17
    replace h13 := h13.belw q17
    replace h15 := h15.belw q17
    replace h'15 := h'15.belw q17
    replace y0 := y0.below q17 y0.lt
    replace y1 := y1.below q17 y1.lt
    replace y2 := y2.below q17 y2.lt
    replace x14_0 := x14_0.below q17 x14_0.lt
    have bw17 : Below w.heap.size w w17 := bw16.trans (q17.mono bw16.size)
    have lw17 : w16.heap.size ≤ w17.heap.size := q17.size
    clear hb17 q17 bw16
    obtain ⟨cy0_0, cy0_1⟩ := y0.c2
    obtain ⟨ly0_0, ly0_1, ly0_2, ly0_3⟩ := lts0 y0.lt
    obtain ⟨cy1_0, cy1_1⟩ := y1.c2
    obtain ⟨fy1_0, fy1_1⟩ := y1.f2
    obtain ⟨ly1_0, ly1_1, ly1_2, ly1_3⟩ := lts1 y1.lt
    obtain ⟨cy2_0, cy2_1, cy2_2⟩ := y2.c3
    obtain ⟨fy2_0, fy2_1, fy2_2⟩ := y2.f3
    obtain ⟨ly2_0, ly2_1, ly2_2, ly2_3⟩ := lts2 y2.lt
    go_wp2_with fail
    refine bodyPost_ret (v := .agg #[.bool false, .slice A15 n15 c15, .slice A17 n17 c17]) (by simp [results, Tryz.results62, go_sem, *] <;> first | rfl | exact ⟨rfl, rfl⟩) rfl ?_
    obtain ⟨e1, e2, e3⟩ := form_pos HN.out HP.out HQ.out
    exact ⟨_, _, _, _, _, _, _, rfl, QV.mk_ (by rw [e1]; exact h15.2.1.keep ((((((Kp.refl w17).setB (p := ⟨w.heap.size + 1, 0, none⟩) y1.box (by decide) (.bool b17)).setB (p := ⟨w.heap.size + 1, 1, none⟩) (y1.box.set ⟨w.heap.size + 1, 0, none⟩ (.bool b17)) (by decide) (.slice A17 n17 c17)).setB (p := ⟨w.heap.size + 1 + 1, 0, none⟩) ((y2.box.set ⟨w.heap.size + 1, 0, none⟩ (.bool b17)).set ⟨w.heap.size + 1, 1, none⟩ (.slice A17 n17 c17)) (by decide) (.bool false)).setB (p := ⟨w.heap.size + 1 + 1, 1, none⟩) (((y2.box.set ⟨w.heap.size + 1, 0, none⟩ (.bool b17)).set ⟨w.heap.size + 1, 1, none⟩ (.slice A17 n17 c17)).set ⟨w.heap.size + 1 + 1, 0, none⟩ (.bool false)) (by decide) (.slice A15 n15 c15)).setB (p := ⟨w.heap.size + 1 + 1, 2, none⟩) ((((y2.box.set ⟨w.heap.size + 1, 0, none⟩ (.bool b17)).set ⟨w.heap.size + 1, 1, none⟩ (.slice A17 n17 c17)).set ⟨w.heap.size + 1 + 1, 0, none⟩ (.bool false)).set ⟨w.heap.size + 1 + 1, 1, none⟩ (.slice A15 n15 c15)) (by decide) (.slice A17 n17 c17))) (by rw [e2]; exact h17.2.1.keep ((((((Kp.refl w17).setB (p := ⟨w.heap.size + 1, 0, none⟩) y1.box (by decide) (.bool b17)).setB (p := ⟨w.heap.size + 1, 1, none⟩) (y1.box.set ⟨w.heap.size + 1, 0, none⟩ (.bool b17)) (by decide) (.slice A17 n17 c17)).setB (p := ⟨w.heap.size + 1 + 1, 0, none⟩) ((y2.box.set ⟨w.heap.size + 1, 0, none⟩ (.bool b17)).set ⟨w.heap.size + 1, 1, none⟩ (.slice A17 n17 c17)) (by decide) (.bool false)).setB (p := ⟨w.heap.size + 1 + 1, 1, none⟩) (((y2.box.set ⟨w.heap.size + 1, 0, none⟩ (.bool b17)).set ⟨w.heap.size + 1, 1, none⟩ (.slice A17 n17 c17)).set ⟨w.heap.size + 1 + 1, 0, none⟩ (.bool false)) (by decide) (.slice A15 n15 c15)).setB (p := ⟨w.heap.size + 1 + 1, 2, none⟩) ((((y2.box.set ⟨w.heap.size + 1, 0, none⟩ (.bool b17)).set ⟨w.heap.size + 1, 1, none⟩ (.slice A17 n17 c17)).set ⟨w.heap.size + 1 + 1, 0, none⟩ (.bool false)).set ⟨w.heap.size + 1 + 1, 1, none⟩ (.slice A15 n15 c15)) (by decide) (.slice A17 n17 c17))) e3 HS.out, (((((bw17.setCell (p := ⟨w.heap.size + 1, 0, none⟩) (by dsimp only; omega) (.bool b17)).setCell (p := ⟨w.heap.size + 1, 1, none⟩) (by dsimp only; omega) (.slice A17 n17 c17)).setCell (p := ⟨w.heap.size + 1 + 1, 0, none⟩) (by dsimp only; omega) (.bool false)).setCell (p := ⟨w.heap.size + 1 + 1, 1, none⟩) (by dsimp only; omega) (.slice A15 n15 c15)).setCell (p := ⟨w.heap.size + 1 + 1, 2, none⟩) (by dsimp only; omega) (.slice A17 n17 c17))⟩
theorem f_form (w : World) (b : Bool) (A : Option Addr) (n c : Nat) (z : Int) (k : Nat) (h : IZ w b A n c z k) (b' : Bool) (A' : Option Addr) (n' c' : Nat) (z' : Int) (k' : Nat) (h' : IZ w b' A' n' c' z' k') (q : Rat) (K : Nat) (hd : z' ≠ 0) (hq : Rat.divInt z z' = q) (hs : Sz q K) (hk : k + k' ≤ 300000000) :
    Calls Tryz.prog 62 #[.agg #[.bool b, .slice A n c], .agg #[.bool b', .slice A' n' c']] w (RetF w q K) := by
  rcases sign3 z with s | s | s
  · rw [← hq, s, Rat.zero_divInt]; exact f_form_0 w b A n c z k h b' A' n' c' z' k' h' K s hk
  · rcases sign3 z' with t | t | t
    · exact absurd t hd
    · exact f_form_pp w b A n c z k h b' A' n' c' z' k' h' q K s t hq hs hk
    · exact f_form_np w b A n c z k h b' A' n' c' z' k' h' q K s t hq hs hk
  · rcases sign3 z' with t | t | t
    · exact absurd t hd
    · exact f_form_pn w b A n c z k h b' A' n' c' z' k' h' q K s t hq hs hk
    · exact f_form_nn w b A n c z k h b' A' n' c' z' k' h' q K s t hq hs hk
end Go.Proofs.YtmneloabphplmaaGreat

/- Walks: fractions: what is valid, the parts. -/
namespace Go.Proofs.YtmneloabphplmaaGreat
open Go Go.RowKit Bn
attribute [local go_sem ↓] Go.wp_at_zero Go.wp_at_succ

section
variable {w : World} {b : Bool} {A : Option Addr} {n c : Nat} {D : Option Addr} {m e : Nat} {a : RD} {k : Nat} (h : QD w b A n c D m e a k)
include h
theorem ok_00 (h1 : n = 0) (h2 : m = 0) : a.ok = !b := by
  have e1 : a.num = [] := List.eq_nil_of_length_eq_zero (by rw [← h.2.1.2.1, h1])
  have e2 : a.den = [] := List.eq_nil_of_length_eq_zero (by rw [← h.2.2.1.2.1, h2])
  unfold RD.ok
  rw [if_pos ⟨e1, e2⟩, h.1]
theorem QD.num_ne (h1 : 0 < n) : a.num ≠ [] := by intro e; have := h.2.1.2.1; rw [e] at this; simp at this; omega
theorem QD.den_ne_ (h1 : 0 < m) : a.den ≠ [] := by intro e; have := h.2.2.1.2.1; rw [e] at this; simp at this; omega
theorem ok_01 (h1 : n = 0) (h2 : 0 < m) : a.ok = false := by
  have e1 : a.num = [] := List.eq_nil_of_length_eq_zero (by rw [← h.2.1.2.1, h1])
  unfold RD.ok
  rw [if_neg (by intro x; exact h.den_ne_ h2 x.2)]; simp [e1]
theorem ok_02 (h1 : 0 < n) (h2 : m = 0) : a.ok = false := by
  have e2 : a.den = [] := List.eq_nil_of_length_eq_zero (by rw [← h.2.2.1.2.1, h2])
  unfold RD.ok
  rw [if_neg (by intro x; exact h.num_ne h1 x.1)]; simp [e2]
omit h in
theorem wdok_ {l : List Nat} (hl : l ≠ []) : WD.ok ⟨false, l⟩ = last0 l := by unfold WD.ok last0; simp [hl]
theorem ok_pos (h1 : 0 < n) (h2 : 0 < m) : a.ok = (WD.ok ⟨false, a.num⟩ && WD.ok ⟨false, a.den⟩ && Nat.gcd (val a.num) (val a.den) == 1) := by
  have e1 := h.num_ne h1
  have e2 := h.den_ne_ h2
  unfold RD.ok
  have f1 : (a.num != []) = true := bne_iff_ne.2 e1
  have f2 : (a.den != []) = true := bne_iff_ne.2 e2
  rw [if_neg (by intro x; exact e1 x.1), wdok_ e1, wdok_ e2, f1, f2]
  rfl
theorem ok_3 (h1 : 0 < n) (h2 : 0 < m) (h3 : WD.ok ⟨false, a.num⟩ = false) : a.ok = false := by rw [ok_pos h h1 h2, h3]; rfl
theorem ok_4 (h1 : 0 < n) (h2 : 0 < m) (h3 : WD.ok ⟨false, a.num⟩ = true) (h4 : WD.ok ⟨false, a.den⟩ = false) : a.ok = false := by rw [ok_pos h h1 h2, h3, h4]; rfl
theorem ok_5 (h1 : 0 < n) (h2 : 0 < m) (h3 : WD.ok ⟨false, a.num⟩ = true) (h4 : WD.ok ⟨false, a.den⟩ = true) : a.ok = (Nat.gcd (val a.num) (val a.den) == 1) := by rw [ok_pos h h1 h2, h3, h4]; rfl
theorem QD.num_z (hk : WD.ok ⟨false, a.num⟩ = true) : IZ w false A n c (val a.num : Int) k := ⟨_, h.2.1, by simp [WD.z, hk], h.2.2.2.1⟩
theorem QD.den_z (hk : WD.ok ⟨false, a.den⟩ = true) : IZ w false D m e (val a.den : Int) k := ⟨_, h.2.2.1, by simp [WD.z, hk], h.2.2.2.2⟩
end
theorem ok_last {x y : Nat} {s : Int} {r : Bool} (hc : cmpI ((Nat.gcd ((x : Int)).natAbs ((y : Int)).natAbs : Nat)) 1 = s) (hr : r = (Nat.gcd x y == 1)) : (s == 0) = r := by
  subst hc hr
  simp only [Int.natAbs_natCast]
  generalize Nat.gcd x y = g
  unfold cmpI
  by_cases h1 : g = 1
  · subst h1; rfl
  · by_cases h2 : g < 1
    · have : g = 0 := by omega
      subst this; rfl
    · have h3 : ¬ ((g : Int) < 1) := by omega
      have h4 : ¬ ((g : Int) = 1) := by omega
      simp [h1, h3, h4]
theorem i_valid_e (w : World) (b : Bool) (A : Option Addr) (n c : Nat) (v : Bool) (l : List Nat) (h : Wd w A n c l) (hv : WD.ok ⟨b, l⟩ = v) (hn : n ≤ 1000000000) :
    Calls Tryz.prog 90 #[.agg #[.bool b, .slice A n c]] w (RetV w (.bool v)) := by subst hv; exact valid_c w b A n c l h (by omega)
theorem i_cmp_e (w : World) (b : Bool) (A : Option Addr) (n c : Nat) (z : Int) (k : Nat) (h : IZ w b A n c z k) (b' : Bool) (A' : Option Addr) (n' c' : Nat) (z' : Int) (k' : Nat) (h' : IZ w b' A' n' c' z' k') (s : Int) (hs : cmpI z z' = s) (hk : k + k' ≤ 1000000000) :
    Calls Tryz.prog 78 #[.agg #[.bool b, .slice A n c], .agg #[.bool b', .slice A' n' c']] w (RetV w (.int .i64 s)) := by subst hs; exact i_cmp w b A n c z k h b' A' n' c' z' k' h' hk
set_option maxHeartbeats 2000000 in
/-- fraction.one -/
theorem f_one (w : World)  :
    Calls Tryz.prog 64 #[] w (RetI w 1 1) := by
  go_enter Tryz.func64, Tryz.ntmps64
  go_wp2_with fail
  (with_reducible refine (i_of1 _ (1) ?_ ?_).mono ?_); (first | omega | decide | assumption); (first | omega | decide | assumption); rintro e w1 ⟨b1, A1, n1, c1, rfl, h1, hb1⟩
  have q1 : Below w.heap.size w w1 := ((Below.refl _ _).alloc (Nat.le_refl _) _).trans (hb1.mono (by simp))
  have x1_0 : Blk w1 (w.heap.size) 77 #[.bool false, .slice none 0 0] := (blkAt _ _ _ (by simp)).below hb1 (by simp)
  have bw1 : Below w.heap.size w w1 := (brefl w).trans (q1.mono (brefl w).size)
  have lw1 : w.heap.size + 1 ≤ w1.heap.size := by have := hb1.size; simp at this; omega
  clear hb1 q1
  obtain ⟨cx1_0_0, cx1_0_1⟩ := x1_0.c2
  obtain ⟨fx1_0_0, fx1_0_1⟩ := x1_0.f2
  obtain ⟨lx1_0_0, lx1_0_1, lx1_0_2, lx1_0_3⟩ := lts0 x1_0.lt
  go_wp2_with fail
  refine bodyPost_ret (v := .agg #[.bool b1, .slice A1 n1 c1]) (by simp [results, Tryz.results64, go_sem, *] <;> first | rfl | exact ⟨rfl, rfl⟩) rfl ?_
  exact ⟨b1, A1, n1, c1, rfl, h1.keep (((Kp.refl w1).setB (p := ⟨w.heap.size, 0, none⟩) x1_0.box (by decide) (.bool b1)).setB (p := ⟨w.heap.size, 1, none⟩) (x1_0.box.set ⟨w.heap.size, 0, none⟩ (.bool b1)) (by decide) (.slice A1 n1 c1)), ((bw1.setCell (p := ⟨w.heap.size, 0, none⟩) (by dsimp only; omega) (.bool b1)).setCell (p := ⟨w.heap.size, 1, none⟩) (by dsimp only; omega) (.slice A1 n1 c1))⟩
set_option maxHeartbeats 1000000 in
/-- fraction.Valid -/
theorem f_valid_0 (w : World) (b : Bool) (A : Option Addr) (n c : Nat) (D : Option Addr) (m e : Nat) (a : RD) (k : Nat) (h : QD w b A n c D m e a k) (hk : k ≤ 300000000) (h1 : n = 0) (h2 : m = 0) :
    Calls Tryz.prog 68 #[.agg #[.bool b, .slice A n c, .slice D m e]] w (RetV w (.bool a.ok)) := by
  have HR := Lib.hid (show a.ok = !b from ok_00 h h1 h2)
  have HK := Lib.hid hk
  subst h1 h2
  clear h hk
  go_enter Tryz.func68, Tryz.ntmps68
  go_wp2
  go_ret
  exact retB (by rw [HR.out]) ((Below.refl _ _).alloc (Nat.le_refl _) _)
set_option maxHeartbeats 1000000 in
/-- fraction.Valid -/
theorem f_valid_1 (w : World) (b : Bool) (A : Option Addr) (n c : Nat) (D : Option Addr) (m e : Nat) (a : RD) (k : Nat) (h : QD w b A n c D m e a k) (hk : k ≤ 300000000) (h1 : n = 0) (h2 : 0 < m) :
    Calls Tryz.prog 68 #[.agg #[.bool b, .slice A n c, .slice D m e]] w (RetV w (.bool a.ok)) := by
  have HR := Lib.hid (show a.ok = false from ok_01 h h1 h2)
  have HK := Lib.hid hk
  have e1 : ((n : Int) == 0) = true := by simp [h1]
  have e2 : ((m : Int) == 0) = false := by simp; omega
  clear h1 h2 hk
  go_enter Tryz.func68, Tryz.ntmps68
  go_wp2_with fail
  have p1 : Kp w (w.alloc (.cells #[.bool b, .slice A n c, .slice D m e] 24)) := ((Kp.refl w).alloc (.cells #[.bool b, .slice A n c, .slice D m e] 24))
  have bw1 : Below w.heap.size w (w.alloc (.cells #[.bool b, .slice A n c, .slice D m e] 24)) := ((brefl w).alloc (by first | omega | (simp <;> omega)) (.cells #[.bool b, .slice A n c, .slice D m e] 24))
  have x1_0 : Blk (w.alloc (.cells #[.bool b, .slice A n c, .slice D m e] 24)) (w.heap.size) 24 #[.bool b, .slice A n c, .slice D m e] := (blkAt _ _ _ (by simp))
  have lw1 : w.heap.size + 1 ≤ (w.alloc (.cells #[.bool b, .slice A n c, .slice D m e] 24)).heap.size := by simp
  generalize hE1 : (w.alloc (.cells #[.bool b, .slice A n c, .slice D m e] 24)) = w1 at p1 bw1 lw1 x1_0 ⊢
  clear hE1
  replace h := h.keep p1
  obtain ⟨cx1_0_0, cx1_0_1, cx1_0_2⟩ := x1_0.c3
  obtain ⟨lx1_0_0, lx1_0_1, lx1_0_2, lx1_0_3⟩ := lts0 x1_0.lt
  go_cut [3, 4] (fun s3 s4 wx => ∃ g3 g4, s3 = .pointer (some ⟨g3, 0, none⟩) ∧ s4 = .pointer (some ⟨g4, 0, none⟩) ∧ Blk wx g3 77 #[.bool false, .slice A n c] ∧ Blk wx g4 77 #[.bool false, .slice D m e] ∧ Blk wx (w.heap.size) 24 #[.bool b, .slice A n c, .slice D m e] ∧ Below w1.heap.size w1 wx)
  case first =>
    go_region_held3 (fun w' => Sees w1.heap.size w1 w') (first | exact Sees.of (Nat.le_refl _) (below_drewN (brefl _) 1) | exact Sees.of (Nat.le_refl _) ((below_drewN (brefl _) 1).alloc (Nat.le_refl _) _) | exact Sees.of (Nat.le_refl _) (((below_drewN (brefl _) 1).alloc (Nat.le_refl _) _).alloc (by simp) _) | exact Sees.of (Nat.le_refl _) ((((below_drewN (brefl _) 1).alloc (Nat.le_refl _) _).alloc (by simp) _).setCell (by simp) _)) (fail)
    all_goals
      go_wp2_with fail
      go_meet
      first
        | exact ⟨_, _, rfl, rfl, ((blkAt _ _ _ rfl).alloc _).drew, (blkAt _ _ _ (by simp)).drew, ((x1_0.alloc _).alloc _).drew, ((((Below.refl _ _).alloc (Nat.le_refl _) _).alloc (by simp) _).drew)⟩
        | exact ⟨_, _, rfl, rfl, (blkAt _ _ _ (by simp)).drew, ((blkAt _ _ _ rfl).alloc _).drew, ((x1_0.alloc _).alloc _).drew, ((((Below.refl _ _).alloc (Nat.le_refl _) _).alloc (by simp) _).drew)⟩
  case rest =>
    clear cx1_0_0 cx1_0_1 cx1_0_2 lx1_0_0 lx1_0_1 lx1_0_2 lx1_0_3
    obtain ⟨g3, g4, rfl, rfl, y3, y4, y1, q1⟩ := hcut
    replace h := h.belw q1
    have bwc : Below w.heap.size w wc := bw1.trans (q1.mono bw1.size)
    clear x1_0 bw1
    have cy1_0 : wc.cell? ⟨w.heap.size, 0, none⟩ = some (.bool b) := y1.cell 0
    have cy1_1 : wc.cell? ⟨w.heap.size, 1, none⟩ = some (.slice A n c) := y1.cell 1
    have cy1_2 : wc.cell? ⟨w.heap.size, 2, none⟩ = some (.slice D m e) := y1.cell 2
    obtain ⟨ly1_0, ly1_1, ly1_2, ly1_3⟩ := lts0 y1.lt
    go_wp2
    go_ret
    exact retB HR.out.symm bwc
set_option maxHeartbeats 1000000 in
/-- fraction.Valid -/
theorem f_valid_2 (w : World) (b : Bool) (A : Option Addr) (n c : Nat) (D : Option Addr) (m e : Nat) (a : RD) (k : Nat) (h : QD w b A n c D m e a k) (hk : k ≤ 300000000) (h1 : 0 < n) (h2 : m = 0) :
    Calls Tryz.prog 68 #[.agg #[.bool b, .slice A n c, .slice D m e]] w (RetV w (.bool a.ok)) := by
  have HR := Lib.hid (show a.ok = false from ok_02 h h1 h2)
  have HK := Lib.hid hk
  have e1 : ((n : Int) == 0) = false := by simp; omega
  have e2 : ((m : Int) == 0) = true := by simp [h2]
  clear h1 h2 hk
  go_enter Tryz.func68, Tryz.ntmps68
  go_wp2_with fail
  have p1 : Kp w (w.alloc (.cells #[.bool b, .slice A n c, .slice D m e] 24)) := ((Kp.refl w).alloc (.cells #[.bool b, .slice A n c, .slice D m e] 24))
  have bw1 : Below w.heap.size w (w.alloc (.cells #[.bool b, .slice A n c, .slice D m e] 24)) := ((brefl w).alloc (by first | omega | (simp <;> omega)) (.cells #[.bool b, .slice A n c, .slice D m e] 24))
  have x1_0 : Blk (w.alloc (.cells #[.bool b, .slice A n c, .slice D m e] 24)) (w.heap.size) 24 #[.bool b, .slice A n c, .slice D m e] := (blkAt _ _ _ (by simp))
  have lw1 : w.heap.size + 1 ≤ (w.alloc (.cells #[.bool b, .slice A n c, .slice D m e] 24)).heap.size := by simp
  generalize hE1 : (w.alloc (.cells #[.bool b, .slice A n c, .slice D m e] 24)) = w1 at p1 bw1 lw1 x1_0 ⊢
  clear hE1
  replace h := h.keep p1
  obtain ⟨cx1_0_0, cx1_0_1, cx1_0_2⟩ := x1_0.c3
  obtain ⟨lx1_0_0, lx1_0_1, lx1_0_2, lx1_0_3⟩ := lts0 x1_0.lt
  go_cut [3, 4] (fun s3 s4 wx => ∃ g3 g4, s3 = .pointer (some ⟨g3, 0, none⟩) ∧ s4 = .pointer (some ⟨g4, 0, none⟩) ∧ Blk wx g3 77 #[.bool false, .slice A n c] ∧ Blk wx g4 77 #[.bool false, .slice D m e] ∧ Blk wx (w.heap.size) 24 #[.bool b, .slice A n c, .slice D m e] ∧ Below w1.heap.size w1 wx)
  case first =>
    go_region_held3 (fun w' => Sees w1.heap.size w1 w') (first | exact Sees.of (Nat.le_refl _) (below_drewN (brefl _) 1) | exact Sees.of (Nat.le_refl _) ((below_drewN (brefl _) 1).alloc (Nat.le_refl _) _) | exact Sees.of (Nat.le_refl _) (((below_drewN (brefl _) 1).alloc (Nat.le_refl _) _).alloc (by simp) _) | exact Sees.of (Nat.le_refl _) ((((below_drewN (brefl _) 1).alloc (Nat.le_refl _) _).alloc (by simp) _).setCell (by simp) _)) (fail)
    all_goals
      go_wp2_with fail
      go_meet
      first
        | exact ⟨_, _, rfl, rfl, ((blkAt _ _ _ rfl).alloc _).drew, (blkAt _ _ _ (by simp)).drew, ((x1_0.alloc _).alloc _).drew, ((((Below.refl _ _).alloc (Nat.le_refl _) _).alloc (by simp) _).drew)⟩
        | exact ⟨_, _, rfl, rfl, (blkAt _ _ _ (by simp)).drew, ((blkAt _ _ _ rfl).alloc _).drew, ((x1_0.alloc _).alloc _).drew, ((((Below.refl _ _).alloc (Nat.le_refl _) _).alloc (by simp) _).drew)⟩
  case rest =>
    clear cx1_0_0 cx1_0_1 cx1_0_2 lx1_0_0 lx1_0_1 lx1_0_2 lx1_0_3
    obtain ⟨g3, g4, rfl, rfl, y3, y4, y1, q1⟩ := hcut
    replace h := h.belw q1
    have bwc : Below w.heap.size w wc := bw1.trans (q1.mono bw1.size)
    clear x1_0 bw1
    have cy1_0 : wc.cell? ⟨w.heap.size, 0, none⟩ = some (.bool b) := y1.cell 0
    have cy1_1 : wc.cell? ⟨w.heap.size, 1, none⟩ = some (.slice A n c) := y1.cell 1
    have cy1_2 : wc.cell? ⟨w.heap.size, 2, none⟩ = some (.slice D m e) := y1.cell 2
    obtain ⟨ly1_0, ly1_1, ly1_2, ly1_3⟩ := lts0 y1.lt
    go_wp2
    go_ret
    exact retB HR.out.symm bwc
set_option maxHeartbeats 1000000 in
/-- fraction.Valid -/
theorem f_valid_3 (w : World) (b : Bool) (A : Option Addr) (n c : Nat) (D : Option Addr) (m e : Nat) (a : RD) (k : Nat) (h : QD w b A n c D m e a k) (hk : k ≤ 300000000) (h1 : 0 < n) (h2 : 0 < m) (h3 : WD.ok ⟨false, a.num⟩ = false) :
    Calls Tryz.prog 68 #[.agg #[.bool b, .slice A n c, .slice D m e]] w (RetV w (.bool a.ok)) := by
  have HR := Lib.hid (ok_3 h h1 h2 h3)
  have HK := Lib.hid hk
  have H3 := Lib.hid h3
  have e1 : ((n : Int) == 0) = false := by simp; omega
  have e2 : ((m : Int) == 0) = false := by simp; omega
  clear h1 h2 hk h3
  go_enter Tryz.func68, Tryz.ntmps68
  go_wp2_with fail
  have p1 : Kp w (w.alloc (.cells #[.bool b, .slice A n c, .slice D m e] 24)) := ((Kp.refl w).alloc (.cells #[.bool b, .slice A n c, .slice D m e] 24))
  have bw1 : Below w.heap.size w (w.alloc (.cells #[.bool b, .slice A n c, .slice D m e] 24)) := ((brefl w).alloc (by first | omega | (simp <;> omega)) (.cells #[.bool b, .slice A n c, .slice D m e] 24))
  have x1_0 : Blk (w.alloc (.cells #[.bool b, .slice A n c, .slice D m e] 24)) (w.heap.size) 24 #[.bool b, .slice A n c, .slice D m e] := (blkAt _ _ _ (by simp))
  have lw1 : w.heap.size + 1 ≤ (w.alloc (.cells #[.bool b, .slice A n c, .slice D m e] 24)).heap.size := by simp
  generalize hE1 : (w.alloc (.cells #[.bool b, .slice A n c, .slice D m e] 24)) = w1 at p1 bw1 lw1 x1_0 ⊢
  clear hE1
  replace h := h.keep p1
  obtain ⟨cx1_0_0, cx1_0_1, cx1_0_2⟩ := x1_0.c3
  obtain ⟨lx1_0_0, lx1_0_1, lx1_0_2, lx1_0_3⟩ := lts0 x1_0.lt
  go_cut [3, 4] (fun s3 s4 wx => ∃ g3 g4, s3 = .pointer (some ⟨g3, 0, none⟩) ∧ s4 = .pointer (some ⟨g4, 0, none⟩) ∧ Blk wx g3 77 #[.bool false, .slice A n c] ∧ Blk wx g4 77 #[.bool false, .slice D m e] ∧ Blk wx (w.heap.size) 24 #[.bool b, .slice A n c, .slice D m e] ∧ Below w1.heap.size w1 wx)
  case first =>
    go_region_held3 (fun w' => Sees w1.heap.size w1 w') (first | exact Sees.of (Nat.le_refl _) (below_drewN (brefl _) 1) | exact Sees.of (Nat.le_refl _) ((below_drewN (brefl _) 1).alloc (Nat.le_refl _) _) | exact Sees.of (Nat.le_refl _) (((below_drewN (brefl _) 1).alloc (Nat.le_refl _) _).alloc (by simp) _) | exact Sees.of (Nat.le_refl _) ((((below_drewN (brefl _) 1).alloc (Nat.le_refl _) _).alloc (by simp) _).setCell (by simp) _)) (fail)
    all_goals
      go_wp2_with fail
      go_meet
      first
        | exact ⟨_, _, rfl, rfl, ((blkAt _ _ _ rfl).alloc _).drew, (blkAt _ _ _ (by simp)).drew, ((x1_0.alloc _).alloc _).drew, ((((Below.refl _ _).alloc (Nat.le_refl _) _).alloc (by simp) _).drew)⟩
        | exact ⟨_, _, rfl, rfl, (blkAt _ _ _ (by simp)).drew, ((blkAt _ _ _ rfl).alloc _).drew, ((x1_0.alloc _).alloc _).drew, ((((Below.refl _ _).alloc (Nat.le_refl _) _).alloc (by simp) _).drew)⟩
  case rest =>
    clear cx1_0_0 cx1_0_1 cx1_0_2 lx1_0_0 lx1_0_1 lx1_0_2 lx1_0_3
    obtain ⟨g3, g4, rfl, rfl, y3, y4, y1, q1⟩ := hcut
    replace h := h.belw q1
    have bwc : Below w.heap.size w wc := bw1.trans (q1.mono bw1.size)
    clear x1_0 bw1
    have cy1_0 : wc.cell? ⟨w.heap.size, 0, none⟩ = some (.bool b) := y1.cell 0
    have cy1_1 : wc.cell? ⟨w.heap.size, 1, none⟩ = some (.slice A n c) := y1.cell 1
    have cy1_2 : wc.cell? ⟨w.heap.size, 2, none⟩ = some (.slice D m e) := y1.cell 2
    obtain ⟨ly1_0, ly1_1, ly1_2, ly1_3⟩ := lts0 y1.lt
    have cy3_0 : wc.cell? ⟨g3, 0, none⟩ = some (.bool false) := y3.cell 0
    have cy3_1 : wc.cell? ⟨g3, 1, none⟩ = some (.slice A n c) := y3.cell 1
    obtain ⟨ly3_0, ly3_1, ly3_2, ly3_3⟩ := lts0 y3.lt
    go_wp2_with fail
    (with_reducible refine (i_valid_e _ false A n c false a.num  ?_ ?_ ?_).mono ?_); (exact h.2.1); (exact H3.out); (have := h.2.2.2.1; have := HK.out; omega); rintro e w7 ⟨rfl, hb7⟩
    clear cy1_0 cy1_1 cy1_2 ly1_0 ly1_1 ly1_2 ly1_3 cy3_0 cy3_1 ly3_0 ly3_1 ly3_2 ly3_3
    have q7 : Below wc.heap.size wc w7 := hb7
    replace h := h.belw q7
    replace y1 := y1.below q7 y1.lt
    replace y3 := y3.below q7 y3.lt
    replace y4 := y4.below q7 y4.lt
    have bw7 : Below w.heap.size w w7 := bwc.trans (q7.mono bwc.size)
    have lw7 : wc.heap.size ≤ w7.heap.size := q7.size
    clear hb7 q7
    obtain ⟨cy4_0, cy4_1⟩ := y4.c2
    obtain ⟨ly4_0, ly4_1, ly4_2, ly4_3⟩ := lts0 y4.lt
    go_wp2_with fail
    go_wp2_with fail
    go_ret
    exact retB HR.out.symm bw7
set_option maxHeartbeats 1000000 in
/-- fraction.Valid -/
theorem f_valid_4 (w : World) (b : Bool) (A : Option Addr) (n c : Nat) (D : Option Addr) (m e : Nat) (a : RD) (k : Nat) (h : QD w b A n c D m e a k) (hk : k ≤ 300000000) (h1 : 0 < n) (h2 : 0 < m) (h3 : WD.ok ⟨false, a.num⟩ = true) (h4 : WD.ok ⟨false, a.den⟩ = false) :
    Calls Tryz.prog 68 #[.agg #[.bool b, .slice A n c, .slice D m e]] w (RetV w (.bool a.ok)) := by
  have HR := Lib.hid (ok_4 h h1 h2 h3 h4)
  have HK := Lib.hid hk
  have H3 := Lib.hid h3
  have e1 : ((n : Int) == 0) = false := by simp; omega
  have e2 : ((m : Int) == 0) = false := by simp; omega
  have H4 := Lib.hid h4
  clear h4
  clear h1 h2 hk h3
  go_enter Tryz.func68, Tryz.ntmps68
  go_wp2_with fail
  have p1 : Kp w (w.alloc (.cells #[.bool b, .slice A n c, .slice D m e] 24)) := ((Kp.refl w).alloc (.cells #[.bool b, .slice A n c, .slice D m e] 24))
  have bw1 : Below w.heap.size w (w.alloc (.cells #[.bool b, .slice A n c, .slice D m e] 24)) := ((brefl w).alloc (by first | omega | (simp <;> omega)) (.cells #[.bool b, .slice A n c, .slice D m e] 24))
  have x1_0 : Blk (w.alloc (.cells #[.bool b, .slice A n c, .slice D m e] 24)) (w.heap.size) 24 #[.bool b, .slice A n c, .slice D m e] := (blkAt _ _ _ (by simp))
  have lw1 : w.heap.size + 1 ≤ (w.alloc (.cells #[.bool b, .slice A n c, .slice D m e] 24)).heap.size := by simp
  generalize hE1 : (w.alloc (.cells #[.bool b, .slice A n c, .slice D m e] 24)) = w1 at p1 bw1 lw1 x1_0 ⊢
  clear hE1
  replace h := h.keep p1
  obtain ⟨cx1_0_0, cx1_0_1, cx1_0_2⟩ := x1_0.c3
  obtain ⟨lx1_0_0, lx1_0_1, lx1_0_2, lx1_0_3⟩ := lts0 x1_0.lt
  go_cut [3, 4] (fun s3 s4 wx => ∃ g3 g4, s3 = .pointer (some ⟨g3, 0, none⟩) ∧ s4 = .pointer (some ⟨g4, 0, none⟩) ∧ Blk wx g3 77 #[.bool false, .slice A n c] ∧ Blk wx g4 77 #[.bool false, .slice D m e] ∧ Blk wx (w.heap.size) 24 #[.bool b, .slice A n c, .slice D m e] ∧ Below w1.heap.size w1 wx)
  case first =>
    go_region_held3 (fun w' => Sees w1.heap.size w1 w') (first | exact Sees.of (Nat.le_refl _) (below_drewN (brefl _) 1) | exact Sees.of (Nat.le_refl _) ((below_drewN (brefl _) 1).alloc (Nat.le_refl _) _) | exact Sees.of (Nat.le_refl _) (((below_drewN (brefl _) 1).alloc (Nat.le_refl _) _).alloc (by simp) _) | exact Sees.of (Nat.le_refl _) ((((below_drewN (brefl _) 1).alloc (Nat.le_refl _) _).alloc (by simp) _).setCell (by simp) _)) (fail)
    all_goals
      go_wp2_with fail
      go_meet
      first
        | exact ⟨_, _, rfl, rfl, ((blkAt _ _ _ rfl).alloc _).drew, (blkAt _ _ _ (by simp)).drew, ((x1_0.alloc _).alloc _).drew, ((((Below.refl _ _).alloc (Nat.le_refl _) _).alloc (by simp) _).drew)⟩
        | exact ⟨_, _, rfl, rfl, (blkAt _ _ _ (by simp)).drew, ((blkAt _ _ _ rfl).alloc _).drew, ((x1_0.alloc _).alloc _).drew, ((((Below.refl _ _).alloc (Nat.le_refl _) _).alloc (by simp) _).drew)⟩
  case rest =>
    clear cx1_0_0 cx1_0_1 cx1_0_2 lx1_0_0 lx1_0_1 lx1_0_2 lx1_0_3
    obtain ⟨g3, g4, rfl, rfl, y3, y4, y1, q1⟩ := hcut
    replace h := h.belw q1
    have bwc : Below w.heap.size w wc := bw1.trans (q1.mono bw1.size)
    clear x1_0 bw1
    obtain ⟨cy1_0, cy1_1, cy1_2⟩ := y1.c3
    obtain ⟨ly1_0, ly1_1, ly1_2, ly1_3⟩ := lts0 y1.lt
    obtain ⟨cy3_0, cy3_1⟩ := y3.c2
    obtain ⟨ly3_0, ly3_1, ly3_2, ly3_3⟩ := lts0 y3.lt
    go_wp2_with fail
    (with_reducible refine (i_valid_e _ false A n c true a.num  ?_ ?_ ?_).mono ?_); (exact h.2.1); (exact H3.out); (have := h.2.2.2.1; have := HK.out; omega); rintro e w7 ⟨rfl, hb7⟩
    clear cy1_0 cy1_1 cy1_2 ly1_0 ly1_1 ly1_2 ly1_3 cy3_0 cy3_1 ly3_0 ly3_1 ly3_2 ly3_3
    have q7 : Below wc.heap.size wc w7 := hb7
    replace h := h.belw q7
    replace y1 := y1.below q7 y1.lt
    replace y3 := y3.below q7 y3.lt
    replace y4 := y4.below q7 y4.lt
    have bw7 : Below w.heap.size w w7 := bwc.trans (q7.mono bwc.size)
    have lw7 : wc.heap.size ≤ w7.heap.size := q7.size
    clear hb7 q7
    obtain ⟨cy4_0, cy4_1⟩ := y4.c2
    obtain ⟨ly4_0, ly4_1, ly4_2, ly4_3⟩ := lts0 y4.lt
    go_wp2_with fail
    (with_reducible refine (i_valid_e _ false D m e false a.den  ?_ ?_ ?_).mono ?_); (exact h.2.2.1); (exact H4.out); (have := h.2.2.2.2; have := HK.out; omega); rintro e w8 ⟨rfl, hb8⟩
    clear cy4_0 cy4_1 ly4_0 ly4_1 ly4_2 ly4_3
    have q8 : Below w7.heap.size w7 w8 := hb8
    replace h := h.belw q8
    replace y1 := y1.below q8 y1.lt
    replace y3 := y3.below q8 y3.lt
    replace y4 := y4.below q8 y4.lt
    have bw8 : Below w.heap.size w w8 := bw7.trans (q8.mono bw7.size)
    have lw8 : w7.heap.size ≤ w8.heap.size := q8.size
    clear hb8 q8 bw7
    go_wp2_with fail
    go_wp2_with fail
    go_ret
    exact retB HR.out.symm bw8
set_option maxHeartbeats 1000000 in
/-- fraction.Valid -/
theorem f_valid_5 (w : World) (b : Bool) (A : Option Addr) (n c : Nat) (D : Option Addr) (m e : Nat) (a : RD) (k : Nat) (h : QD w b A n c D m e a k) (hk : k ≤ 300000000) (h1 : 0 < n) (h2 : 0 < m) (h3 : WD.ok ⟨false, a.num⟩ = true) (h4 : WD.ok ⟨false, a.den⟩ = true) :
    Calls Tryz.prog 68 #[.agg #[.bool b, .slice A n c, .slice D m e]] w (RetV w (.bool a.ok)) := by
  have HR := Lib.hid (ok_5 h h1 h2 h3 h4)
  have HK := Lib.hid hk
  have H3 := Lib.hid h3
  have e1 : ((n : Int) == 0) = false := by simp; omega
  have e2 : ((m : Int) == 0) = false := by simp; omega
  have H4 := Lib.hid h4
  clear h4
  clear h1 h2 hk h3
  go_enter Tryz.func68, Tryz.ntmps68
  go_wp2_with fail
  have p1 : Kp w (w.alloc (.cells #[.bool b, .slice A n c, .slice D m e] 24)) := ((Kp.refl w).alloc (.cells #[.bool b, .slice A n c, .slice D m e] 24))
  have bw1 : Below w.heap.size w (w.alloc (.cells #[.bool b, .slice A n c, .slice D m e] 24)) := ((brefl w).alloc (by first | omega | (simp <;> omega)) (.cells #[.bool b, .slice A n c, .slice D m e] 24))
  have x1_0 : Blk (w.alloc (.cells #[.bool b, .slice A n c, .slice D m e] 24)) (w.heap.size) 24 #[.bool b, .slice A n c, .slice D m e] := (blkAt _ _ _ (by simp))
  have lw1 : w.heap.size + 1 ≤ (w.alloc (.cells #[.bool b, .slice A n c, .slice D m e] 24)).heap.size := by simp
  generalize hE1 : (w.alloc (.cells #[.bool b, .slice A n c, .slice D m e] 24)) = w1 at p1 bw1 lw1 x1_0 ⊢
  clear hE1
  replace h := h.keep p1
  obtain ⟨cx1_0_0, cx1_0_1, cx1_0_2⟩ := x1_0.c3
  obtain ⟨lx1_0_0, lx1_0_1, lx1_0_2, lx1_0_3⟩ := lts0 x1_0.lt
  go_cut [3, 4] (fun s3 s4 wx => ∃ g3 g4, s3 = .pointer (some ⟨g3, 0, none⟩) ∧ s4 = .pointer (some ⟨g4, 0, none⟩) ∧ Blk wx g3 77 #[.bool false, .slice A n c] ∧ Blk wx g4 77 #[.bool false, .slice D m e] ∧ Blk wx (w.heap.size) 24 #[.bool b, .slice A n c, .slice D m e] ∧ Below w1.heap.size w1 wx)
  case first =>
    go_region_held3 (fun w' => Sees w1.heap.size w1 w') (first | exact Sees.of (Nat.le_refl _) (below_drewN (brefl _) 1) | exact Sees.of (Nat.le_refl _) ((below_drewN (brefl _) 1).alloc (Nat.le_refl _) _) | exact Sees.of (Nat.le_refl _) (((below_drewN (brefl _) 1).alloc (Nat.le_refl _) _).alloc (by simp) _) | exact Sees.of (Nat.le_refl _) ((((below_drewN (brefl _) 1).alloc (Nat.le_refl _) _).alloc (by simp) _).setCell (by simp) _)) (fail)
    all_goals
      go_wp2_with fail
      go_meet
      first
        | exact ⟨_, _, rfl, rfl, ((blkAt _ _ _ rfl).alloc _).drew, (blkAt _ _ _ (by simp)).drew, ((x1_0.alloc _).alloc _).drew, ((((Below.refl _ _).alloc (Nat.le_refl _) _).alloc (by simp) _).drew)⟩
        | exact ⟨_, _, rfl, rfl, (blkAt _ _ _ (by simp)).drew, ((blkAt _ _ _ rfl).alloc _).drew, ((x1_0.alloc _).alloc _).drew, ((((Below.refl _ _).alloc (Nat.le_refl _) _).alloc (by simp) _).drew)⟩
  case rest =>
    clear cx1_0_0 cx1_0_1 cx1_0_2 lx1_0_0 lx1_0_1 lx1_0_2 lx1_0_3
    obtain ⟨g3, g4, rfl, rfl, y3, y4, y1, q1⟩ := hcut
    replace h := h.belw q1
    have bwc : Below w.heap.size w wc := bw1.trans (q1.mono bw1.size)
    clear x1_0 bw1
    obtain ⟨cy1_0, cy1_1, cy1_2⟩ := y1.c3
    obtain ⟨ly1_0, ly1_1, ly1_2, ly1_3⟩ := lts0 y1.lt
    obtain ⟨cy3_0, cy3_1⟩ := y3.c2
    obtain ⟨ly3_0, ly3_1, ly3_2, ly3_3⟩ := lts0 y3.lt
    go_wp2_with fail
    (with_reducible refine (i_valid_e _ false A n c true a.num  ?_ ?_ ?_).mono ?_); (exact h.2.1); (exact H3.out); (have := h.2.2.2.1; have := HK.out; omega); rintro e w7 ⟨rfl, hb7⟩
    clear cy1_0 cy1_1 cy1_2 ly1_0 ly1_1 ly1_2 ly1_3 cy3_0 cy3_1 ly3_0 ly3_1 ly3_2 ly3_3
    have q7 : Below wc.heap.size wc w7 := hb7
    replace h := h.belw q7
    replace y1 := y1.below q7 y1.lt
    replace y3 := y3.below q7 y3.lt
    replace y4 := y4.below q7 y4.lt
    have bw7 : Below w.heap.size w w7 := bwc.trans (q7.mono bwc.size)
    have lw7 : wc.heap.size ≤ w7.heap.size := q7.size
    clear hb7 q7
    obtain ⟨cy4_0, cy4_1⟩ := y4.c2
    obtain ⟨ly4_0, ly4_1, ly4_2, ly4_3⟩ := lts0 y4.lt
    go_wp2_with fail
    (with_reducible refine (i_valid_e _ false D m e true a.den  ?_ ?_ ?_).mono ?_); (exact h.2.2.1); (exact H4.out); (have := h.2.2.2.2; have := HK.out; omega); rintro e w8 ⟨rfl, hb8⟩
    clear cy4_0 cy4_1 ly4_0 ly4_1 ly4_2 ly4_3
    have q8 : Below w7.heap.size w7 w8 := hb8
    replace h := h.belw q8
    replace y1 := y1.below q8 y1.lt
    replace y3 := y3.below q8 y3.lt
    replace y4 := y4.below q8 y4.lt
    have bw8 : Below w.heap.size w w8 := bw7.trans (q8.mono bw7.size)
    have lw8 : w7.heap.size ≤ w8.heap.size := q8.size
    clear hb8 q8 bw7
    obtain ⟨cy3_0, cy3_1⟩ := y3.c2
    obtain ⟨ly3_0, ly3_1, ly3_2, ly3_3⟩ := lts0 y3.lt
    obtain ⟨cy4_0, cy4_1⟩ := y4.c2
    obtain ⟨ly4_0, ly4_1, ly4_2, ly4_3⟩ := lts0 y4.lt
    go_wp2_with fail
    have hN := h.num_z H3.out
    have hD := h.den_z H4.out
    obtain ⟨s, hs⟩ : ∃ s, cmpI ((Nat.gcd ((val a.num : Int)).natAbs ((val a.den : Int)).natAbs : Nat)) 1 = s := ⟨_, rfl⟩
    have HC := Lib.hid hs
    clear hs
    (with_reducible refine (i_gcd _ false A n c ((val a.num : Int)) (k) ?_ false D m e ((val a.den : Int)) (k) ?_ ?_).mono ?_); (exact hN); (exact hD); (have := HK.out; omega); rintro e w9 ⟨b9, A9, n9, c9, rfl, h9, hb9⟩
    clear cy3_0 cy3_1 ly3_0 ly3_1 ly3_2 ly3_3 cy4_0 cy4_1 ly4_0 ly4_1 ly4_2 ly4_3
    have q9 : Below w8.heap.size w8 w9 := hb9
    replace h := h.belw q9
    replace hN := hN.belw q9
    replace hD := hD.belw q9
    replace y1 := y1.below q9 y1.lt
    replace y3 := y3.below q9 y3.lt
    replace y4 := y4.below q9 y4.lt
    have bw9 : Below w.heap.size w w9 := bw8.trans (q9.mono bw8.size)
    have lw9 : w8.heap.size ≤ w9.heap.size := q9.size
    clear hb9 q9 bw8
    go_wp2_with fail
    (with_reducible refine (f_one _).mono ?_); rintro e w10 ⟨b10, A10, n10, c10, rfl, h10, hb10⟩
    have q10 : Below w9.heap.size w9 w10 := hb10
    replace h := h.belw q10
    replace hN := hN.belw q10
    replace hD := hD.belw q10
    replace h9 := h9.belw q10
    replace y1 := y1.below q10 y1.lt
    replace y3 := y3.below q10 y3.lt
    replace y4 := y4.below q10 y4.lt
    have bw10 : Below w.heap.size w w10 := bw9.trans (q10.mono bw9.size)
    have lw10 : w9.heap.size ≤ w10.heap.size := q10.size
    clear hb10 q10 bw9
    go_wp2_with fail
    (with_reducible refine (i_cmp_e _ b9 A9 n9 c9 ((Nat.gcd (((val a.num : Int))).natAbs (((val a.den : Int))).natAbs : Nat)) ((k) + (k)) ?_ b10 A10 n10 c10 (1) (1) ?_ s ?_ ?_).mono ?_); (exact h9.iz); (exact h10.iz); (exact HC.out); (have := HK.out; omega); rintro e w11 ⟨rfl, hb11⟩
    have q11 : Below w10.heap.size w10 w11 := hb11
    replace h := h.belw q11
    replace hN := hN.belw q11
    replace hD := hD.belw q11
    replace h9 := h9.belw q11
    replace h10 := h10.belw q11
    replace y1 := y1.below q11 y1.lt
    replace y3 := y3.below q11 y3.lt
    replace y4 := y4.below q11 y4.lt
    have bw11 : Below w.heap.size w w11 := bw10.trans (q11.mono bw10.size)
    have lw11 : w10.heap.size ≤ w11.heap.size := q11.size
    clear hb11 q11 bw10
    go_wp2_with fail
    go_ret
    exact retB (ok_last HC.out HR.out) bw11
theorem f_valid (w : World) (b : Bool) (A : Option Addr) (n c : Nat) (D : Option Addr) (m e : Nat) (a : RD) (k : Nat) (h : QD w b A n c D m e a k) (hk : k ≤ 300000000) : Calls Tryz.prog 68 #[.agg #[.bool b, .slice A n c, .slice D m e]] w (RetV w (.bool a.ok)) := by
  rcases Nat.eq_zero_or_pos n with h1 | h1 <;> rcases Nat.eq_zero_or_pos m with h2 | h2
  · exact f_valid_0 w b A n c D m e a k h hk h1 h2
  · exact f_valid_1 w b A n c D m e a k h hk h1 h2
  · exact f_valid_2 w b A n c D m e a k h hk h1 h2
  · cases h3 : WD.ok ⟨false, a.num⟩
    · exact f_valid_3 w b A n c D m e a k h hk h1 h2 h3
    · cases h4 : WD.ok ⟨false, a.den⟩
      · exact f_valid_4 w b A n c D m e a k h hk h1 h2 h3 h4
      · exact f_valid_5 w b A n c D m e a k h hk h1 h2 h3 h4
end Go.Proofs.YtmneloabphplmaaGreat

/- Walks: words of a list, validity, sign, copies without zeros at the end. -/
namespace Go.Proofs.YtmneloabphplmaaGreat
open Go Go.RowKit Bn

/-- ref01.word -/
theorem r_word_c (w : World) (A : Option Addr) (n c : Nat) (l : List Nat) (h : Wd w A n c l) (i : Int) (hi : 0 ≤ i) (hn : n ≤ 4398046511104) :
    Calls Tryz.prog 110 #[.slice A n c, .int .i64 i] w fun e w' => e = .returned (.int .u64 (wd l i.toNat : Nat)) ∧ w = w' := by
  obtain ⟨k, rfl⟩ := Int.eq_ofNat_of_zero_le hi
  have hl := h.lt k
  have hlen : n = l.length := h.2.1
  by_cases hk : k < n
  · obtain ⟨g, o, rfl, hc⟩ := h.at_ (by omega)
    have hck := hc k hk
    clear hc hi
    have H := Lib.hid hlen
    clear hlen
    go_enter Tryz.func110, Tryz.ntmps110
    go_wp2
    go_ret
    exact ⟨by simp, rfl⟩
  · have hz : wd l k = 0 := wd_ge (by omega)
    have H := Lib.hid hz
    have H2 := Lib.hid hlen
    clear hz hi hlen
    go_enter Tryz.func110, Tryz.ntmps110
    go_wp2
    go_ret
    exact ⟨by simp [H.out], rfl⟩

/-- ref01.word at place k, where the word is x. -/
theorem r_word_x (w : World) (A : Option Addr) (n c : Nat) (l : List Nat) (h : Wd w A n c l) (k x : Nat) (hx : wd l k = x) (hn : n ≤ 4398046511104) :
    Calls Tryz.prog 110 #[.slice A n c, .int .i64 (k : Nat)] w fun e w' => e = .returned (.int .u64 (x : Nat)) ∧ w = w' := by
  subst hx
  have := r_word_c w A n c l h (k : Nat) (by omega) hn
  simpa using this

theorem r_word_q (w : World) (A : Option Addr) (n c : Nat) (l : List Nat) (h : Wd w A n c l) (k x : Nat) (hx : wd l k = x) (hn : n ≤ 4398046511104) :
    Calls Tryz.prog 110 #[.slice A n c, .int .i64 (k : Nat)] w fun e w' => e = .returned (.int .u64 (x : Nat)) ∧ w' = w :=
  (r_word_x w A n c l h k x hx hn).mono fun _ _ ⟨a, b⟩ => ⟨a, b.symm⟩

/-- ref01.Valid -/
theorem r_valid_c (w : World) (b : Bool) (A : Option Addr) (n c : Nat) (l : List Nat) (h : Wd w A n c l) (hn : n ≤ 1099511627776) :
    Calls Tryz.prog 105 #[.agg #[.bool b, .slice A n c]] w (RetV w (.bool (WD.ok ⟨b, l⟩))) := by
  have HL := Lib.hid h.2.1
  by_cases h0 : n = 0
  · subst h0
    have hl : l = [] := List.eq_nil_of_length_eq_zero HL.out.symm
    have HE := Lib.hid (show WD.ok ⟨b, l⟩ = !b by unfold WD.ok; simp [hl])
    clear hl
    go_enter Tryz.func105, Tryz.ntmps105
    go_wp2
    go_ret
    exact retB HE.out.symm ((Below.refl _ _).alloc (Nat.le_refl _) _)
  · obtain ⟨g, o, rfl, hgl, hc⟩ := h.at2 (by omega)
    have hck := hc (n - 1) (by omega)
    have hlt := h.lt (n - 1)
    have he : WD.ok ⟨b, l⟩ = !decide (wd l (n - 1) = 0) := by
      have hne : l ≠ [] := by rintro rfl; have := HL.out; simp at this; omega
      unfold WD.ok
      simp only [if_neg hne, ← HL.out]
      by_cases hz : wd l (n - 1) = 0 <;> simp [hz]
    have HE := Lib.hid he
    clear he
    have hn0 : ((n : Int) == 0) = false := by simp; omega
    have hp : 0 < n := by omega
    clear hc h0
    generalize hgx : wd l (n - 1) = x at *
    clear hgx
    go_enter Tryz.func105, Tryz.ntmps105
    go_wp2
    go_ret
    refine retB ?_ ((Below.refl _ _).alloc (Nat.le_refl _) _)
    rw [HE.out]
    by_cases hz : x = 0 <;> simp [hz]

/-- ref01.mag -/
theorem r_mag_c (w : World) (b : Bool) (A : Option Addr) (n c : Nat) (l : List Nat) (h : Wd w A n c l) (hn : n ≤ 1099511627776) :
    Calls Tryz.prog 83 #[.agg #[.bool b, .slice A n c]] w (RetL w (WD.m ⟨b, l⟩)) := by
  cases hk : WD.ok ⟨b, l⟩
  · have HK := Lib.hid hk
    go_enter Tryz.func83, Tryz.ntmps83
    go_wp2_with (go_at_call 105; refine (r_valid_c _ b A n c l (h.keep ((Kp.refl _).alloc _)) hn).mono ?_; rintro e w1 ⟨rfl, hb⟩)
    go_ret
    refine ⟨none, 0, 0, rfl, ?_, ((Below.refl _ _).alloc (Nat.le_refl _) _).trans (hb.mono (by simp))⟩
    unfold WD.m; rw [HK.out]; exact Wd.nil_ _
  · have HK := Lib.hid hk
    go_enter Tryz.func83, Tryz.ntmps83
    go_wp2_with (go_at_call 105; refine (r_valid_c _ b A n c l (h.keep ((Kp.refl _).alloc _)) hn).mono ?_; rintro e w1 ⟨rfl, hb⟩; obtain ⟨hc, hf⟩ := bcell hb)
    go_ret
    refine ⟨A, n, c, rfl, ?_, ((Below.refl _ _).alloc (Nat.le_refl _) _).trans (hb.mono (by simp))⟩
    unfold WD.m; rw [HK.out]; exact h.keep (((Kp.refl _).alloc _).below hb)

/-- ref01.neg -/
theorem r_neg_c (w : World) (b : Bool) (A : Option Addr) (n c : Nat) (l : List Nat) (h : Wd w A n c l) (hn : n ≤ 1099511627776) :
    Calls Tryz.prog 84 #[.agg #[.bool b, .slice A n c]] w (RetV w (.bool (WD.s ⟨b, l⟩))) := by
  cases hk : WD.ok ⟨b, l⟩
  · have HK := Lib.hid hk
    go_enter Tryz.func84, Tryz.ntmps84
    go_wp2_with (go_at_call 105; refine (r_valid_c _ b A n c l (h.keep ((Kp.refl _).alloc _)) hn).mono ?_; rintro e w1 ⟨rfl, hb⟩)
    go_ret
    refine retB ?_ (((Below.refl _ _).alloc (Nat.le_refl _) _).trans (hb.mono (by simp)))
    unfold WD.s; rw [HK.out]; rfl
  · have HK := Lib.hid hk
    go_enter Tryz.func84, Tryz.ntmps84
    go_wp2_with (go_at_call 105; refine (r_valid_c _ b A n c l (h.keep ((Kp.refl _).alloc _)) hn).mono ?_; rintro e w1 ⟨rfl, hb⟩; obtain ⟨hc, hf⟩ := bcell hb)
    go_ret
    refine retB ?_ (((Below.refl _ _).alloc (Nat.le_refl _) _).trans (hb.mono (by simp)))
    unfold WD.s; rw [HK.out]; simp

end Go.Proofs.YtmneloabphplmaaGreat

/- Walks: the reference's copies without zeros at the end, and the integer of words. -/
namespace Go.Proofs.YtmneloabphplmaaGreat
open Go Go.RowKit Bn

theorem Wd.cut_ {w : World} {g o n c : Nat} {l : List Nat} (h : Wd w (some ⟨g, o, none⟩) n c l) {j : Nat} (hj : j ≤ n) : Wd w (some ⟨g, o, none⟩) j c (l.take j) := by
  have hl := h.2.1
  refine ⟨Wds.take h.1 j, by rw [List.length_take]; omega, Nat.le_trans hj h.2.2.1, fun h0 => ?_⟩
  obtain ⟨g', o', cur, fr, e, hb, hc⟩ := h.2.2.2 (by omega)
  refine ⟨g', o', cur, fr, e, hb, fun i hi => ?_⟩
  rw [hc i (by omega)]
  have : wd (l.take j) i = wd l i := by simp [wd, List.getD, hi]
  rw [this]
theorem run_append_empty {P : Program} (w : World) (t ty e : TypeId) (i : TypeInfo) (ht : P.underlying t = some (.slice e)) (hi : P.info? e = some i) (g : Nat) (A : Option Addr) (c : Nat) :
    (Builtin.append_ #[t, t] ty #[.slice (some ⟨g, 0, none⟩) 0 0, .slice A 0 c]).run P w = .ok (.slice (some ⟨g, 0, none⟩) 0 0) w := by
  cases A <;> simp [Builtin.append_, run_underlying ht, sizeOf, typeInfo, hi, Builtin.lenOf, Builtin.firstCells, loadCells, loadCellsFrom, storeCells]
theorem wpList_append_empty {P : Program} {w : World} {ops : Array Oper} {rest : List Oper} {o : Oper} {a : Act} {Q : Exit → Act → World → Prop} (hgd : o.guard = none) (s x : Operand) (t : TypeId)
    (ho : o.op = .call { callee := .builtin .append, args := #[s, x], argTypes := #[t, t] })
    (e : TypeId) (i : TypeInfo) (ht : P.underlying t = some (.slice e)) (hi : P.info? e = some i)
    (g : Nat) (A : Option Addr) (c : Nat) (hs : a.eval s = .slice (some ⟨g, 0, none⟩) 0 0) (hx : a.eval x = .slice A 0 c)
    (h : wpList P ops Q rest (a.put o.dst (.slice (some ⟨g, 0, none⟩) 0 0)) w) : wpList P ops Q (o :: rest) a w := by
  refine wpList_plain hgd fun K hK => ?_
  have hrun := run_append_empty (P := P) w t o.type e i ht hi g A c
  unfold Oper.wp
  simp [execOp, ho, resolve, invoke, builtin, hs, hx, hrun, Result.andThen]
  exact hK _ _ h
/-- linkworkref01.trim -/
theorem r_trim_c (w : World) (A : Option Addr) (n c : Nat) (l : List Nat) (h : Wd w A n c l) (hn : n ≤ 4398046511104) :
    Calls Tryz.prog 101 #[.slice A n c] w (RetL w (digs (val l))) := by
  have HL := Lib.hid h.2.1
  have hcap : n ≤ c := h.2.2.1
  obtain ⟨i0, hi0, hz0, hz1, hz2⟩ := info_parts info_u32
  by_cases h0 : n = 0
  · subst h0
    have HE := Lib.hid (show digs (val l) = [] by rw [List.eq_nil_of_length_eq_zero HL.out.symm]; exact digs_zero)
    clear h hn
    go_enter Tryz.func101, Tryz.ntmps101
    go_wp2_with (at_builtin; refine wpList_append_empty rfl _ _ _ rfl 89 i0 Tryz.underlying22 hi0 _ _ _ rfl rfl ?_)
    go_loop [3] (fun v => v = .slice (some ⟨w.heap.size, 0, none⟩) 0 0) (fun _ => 0)
    case atStart => rfl
    case round =>
      subst hrel
      go_wp2
      go_ret
      refine ⟨_, _, _, rfl, ?_, (Below.refl _ _).alloc (Nat.le_refl _) _⟩
      rw [HE.out]
      exact ⟨by simp [Wds], rfl, Nat.le_refl _, fun h => absurd h (by omega)⟩
  · obtain ⟨g, o, rfl, hc⟩ := h.at_ (by omega)
    clear hc
    have hp : 0 < n := by omega
    have hown := World.ownsRow_lit (e := 89) (size := 1) w #[] 0 (Nat.le_refl _) (by simp [maxLen]) rfl
    have hnews := (h.keep ((Kp.refl w).alloc (.cells #[] 89))).news (by omega) (Nat.le_refl _)
    have hnl : (words (l.take n)).length = n * 1 := by rw [words_len, List.length_take, ← HL.out]; omega
    have HO := Lib.hid hown
    have HN := Lib.hid hnews
    have HNL := Lib.hid hnl
    have HW := Lib.hid h.1
    clear hown hnews hnl h h0
    go_enter Tryz.func101, Tryz.ntmps101
    go_wp2_with (at_builtin; refine wpList_append_lies _ rfl _ _ _ rfl w.heap.size 89 i0 (.int .u32 0) 1 4 Tryz.underlying22 hi0 hz0 hz1 hz2 rfl (by omega) _ 0 [] rfl HO.out ⟨g, o, none⟩ n c (words (l.take n)) rfl HNL.out HN.out (words_one _) (by omega) (by unfold maxLen; omega) (by omega) (by simp) (w.heap.size + 1) (by simp) ?_; intro gx cap w1 hown1 hgrow hat hlt1)
    simp only [Nat.zero_add, List.nil_append] at hown1
    have hw1 := Wd.of_own hown1 (Wds.take HW.out n)
    rw [List.take_of_length_le (Nat.le_of_eq HL.out.symm)] at hw1
    have hbel := ((Below.refl w.heap.size w).alloc (Nat.le_refl _) (.cells #[] 89)).grown hgrow (by simp) (fun b hb => Nat.le_of_eq (Option.some.inj hb))
    have HW1 := Lib.hid hw1
    have HB := Lib.hid hbel
    have hcap1 : n ≤ cap := hw1.2.2.1
    clear hown1 hgrow hat hw1 hbel HO HN HNL
    go_loop [3] (fun v => ∃ k : Nat, k ≤ n ∧ v = .slice (some ⟨gx, 0, none⟩) k cap ∧ TrimI l k) (fun v => match v with | .slice _ k _ => k | _ => 0)
    case atStart => exact ⟨n, Nat.le_refl _, by simp, fun i hi => wd_ge (by rw [← HL.out]; exact hi)⟩
    case round =>
      obtain ⟨k, hk, rfl, ht⟩ := hrel
      by_cases h0 : k = 0
      · subst h0
        have HT := Lib.hid ht
        clear ht
        go_wp2
        go_ret
        refine ⟨_, _, _, rfl, ?_, HB.out⟩
        have := digs_of_take HW.out (Nat.zero_le _) HT.out (.inl rfl)
        rw [this]; exact HW1.out.cut_ (Nat.zero_le _)
      · have hkp : 0 < k := by omega
        obtain ⟨g', o', e, hc⟩ := HW1.out.at_ (by omega)
        injection e with e; injection e with e1 e2
        subst e1 e2
        have hck := hc (k - 1) (by omega)
        rw [Nat.zero_add] at hck
        have hlt := HW1.out.lt (k - 1)
        have HT := Lib.hid ht
        generalize hx : wd l (k - 1) = x at *
        have HX := Lib.hid hx
        clear hc h0 ht hx
        by_cases hz : x = 0
        · subst hz
          go_wp2
          go_round
          case rel => exact ⟨k - 1, by omega, rfl, fun i hi => by
            by_cases he : i = k - 1
            · subst he; exact HX.out
            · exact HT.out i (by omega)⟩
          case measure => dsimp only; omega
        · have hz' : ((x : Int) == 0) = false := by simp; omega
          have HZ := Lib.hid hz
          clear hz
          go_wp2
          go_ret
          have hd := digs_of_take HW.out (by rw [← HL.out]; exact hk) HT.out (.inr (by rw [HX.out]; exact HZ.out))
          refine ⟨_, _, _, rfl, ?_, HB.out⟩
          rw [hd]; exact HW1.out.cut_ hk
end Go.Proofs.YtmneloabphplmaaGreat

/- Walks: the reference's integer of words, comparison of lists. -/
namespace Go.Proofs.YtmneloabphplmaaGreat
open Go Go.RowKit Bn

/-- linkworkref01.form -/
theorem r_form_c (w : World) (b : Bool) (A : Option Addr) (n c : Nat) (l : List Nat) (h : Wd w A n c l) (hn : n ≤ 1099511627776) :
    Calls Tryz.prog 81 #[.bool b, .slice A n c] w (RetW w (wh (sgn b (val l)))) := by
  rw [wh_sgn]
  go_enter Tryz.func81, Tryz.ntmps81
  go_wp2_with fail
  (with_reducible refine (r_trim_c _ A n c l ?_ ?_).mono ?_); (exact h.keep ((Kp.refl _).alloc _)); (omega); rintro e w1 ⟨A1, n1, c1, rfl, h1, hb⟩
  have q : Below w.heap.size w w1 := ((Below.refl _ _).alloc (Nat.le_refl _) _).trans (hb.mono (by simp))
  have x : Blk w1 w.heap.size 77 #[.bool false, .slice none 0 0] := (blkAt w _ _ rfl).below hb (by simp)
  have c0 : w1.cell? ⟨w.heap.size, 0, none⟩ = some (.bool false) := x.cell 0
  have c1' : w1.cell? ⟨w.heap.size, 1, none⟩ = some (.slice none 0 0) := x.cell 1
  obtain ⟨f0, f1⟩ := x.f2
  have HL := Lib.hid h1.2.1
  clear hb h
  by_cases h0 : n1 = 0
  · subst h0
    have HE := Lib.hid (List.eq_nil_of_length_eq_zero HL.out.symm)
    have H1 := Lib.hid h1
    clear h1
    go_wp2
    refine bodyPost_ret (v := .agg #[.bool false, .slice none 0 0]) (by simp [results, Tryz.results81, go_sem, *] <;> first | rfl | exact ⟨rfl, rfl⟩) rfl ?_
    rw [HE.out]
    exact ⟨none, 0, 0, by simp, Wd.nil_ _, (q.setCell (p := ⟨w.heap.size, 0, none⟩) (Nat.le_refl _) _).setCell (p := ⟨w.heap.size, 1, none⟩) (Nat.le_refl _) _⟩
  · have e0 : ((n1 : Int) == 0) = false := by simp; omega
    have hp : 0 < n1 := by omega
    have H1 := Lib.hid h1
    clear h1 h0
    go_wp2
    refine bodyPost_ret (v := .agg #[.bool b, .slice A1 n1 c1]) (by simp [results, Tryz.results81, go_sem, *] <;> first | rfl | exact ⟨rfl, rfl⟩) rfl ?_
    refine ⟨A1, n1, c1, ?_, H1.out.keep (kp2 x.box (by decide) _ _ _ _), (q.setCell (p := ⟨w.heap.size, 0, none⟩) (Nat.le_refl _) _).setCell (p := ⟨w.heap.size, 1, none⟩) (Nat.le_refl _) _⟩
    have : decide (0 < (digs (val l)).length) = true := by rw [← HL.out]; simp [hp]
    rw [this]; simp
set_option maxHeartbeats 1000000 in
/-- linkworkref01.compare -/
theorem r_compare_c (w : World) (A : Option Addr) (n c : Nat) (l : List Nat) (wa : Wd w A n c l) (hn : n ≤ 1099511627776) (A' : Option Addr) (n' c' : Nat) (l' : List Nat) (wb : Wd w A' n' c' l') (hn' : n' ≤ 1099511627776) :
    Calls Tryz.prog 99 #[.slice A n c, .slice A' n' c'] w (RetV w (.int .i64 (cmpN (val l) (val l')))) := by
  have HL := Lib.hid wa.2.1
  have HL' := Lib.hid wb.2.1
  obtain ⟨M, hM⟩ : ∃ M, M = max n n' := ⟨_, rfl⟩
  have HM := Lib.hid hM
  have hM3 : M ≤ 1099511627776 := by omega
  clear hM
  go_enter Tryz.func99, Tryz.ntmps99
  go_wp2
  all_goals
    go_loop [5] (fun v => ∃ k : Nat, k ≤ M ∧ v = .int .i64 ((k : Int) - 1) ∧ CmpI l l' k) (fun v => (intOf v + 1).toNat)
    case atStart => exact ⟨M, Nat.le_refl _, by have := HM.out; rw [show (M : Int) - 1 = _ from rfl]; congr 1; omega, fun j hj => by rw [wd_ge (by rw [← HL.out]; have := HM.out; omega), wd_ge (by rw [← HL'.out]; have := HM.out; omega)]⟩
    case round =>
      obtain ⟨k, hk, rfl, hI⟩ := hrel
      by_cases h0 : k = 0
      · subst h0
        have HE := Lib.hid (show cmpN (val l) (val l') = 0 by unfold cmpN; rw [val_eq_of (fun j => hI j (Nat.zero_le _))]; simp)
        clear hI
        go_wp2
        go_ret
        exact retI HE.out.symm (Below.refl _ _)
      · obtain ⟨j, rfl⟩ : ∃ j, k = j + 1 := ⟨k - 1, by omega⟩
        obtain ⟨x, y, hx, hy⟩ : ∃ x y, wd l j = x ∧ wd l' j = y := ⟨_, _, rfl, rfl⟩
        have HX := Lib.hid hx
        have HY := Lib.hid hy
        have HI := Lib.hid hI
        have ej : (((j + 1 : Nat) : Int) - 1) = (j : Int) := by omega
        rw [ej]
        clear hx hy hI h0 ej
        rcases Nat.lt_trichotomy x y with hxy | rfl | hxy
        · have hne : ((x : Int) != (y : Int)) = true := by rw [bne_iff_ne]; omega
          have HE := Lib.hid (show cmpN (val l) (val l') = -1 by unfold cmpN; rw [if_pos (val_lt_of wa.1 (i := j) (by rw [HX.out, HY.out]; exact hxy) (fun i hi => HI.out i (by omega)))])
          go_wp2_with (first
            | (go_at_call 110; (with_reducible refine (r_word_x _ A n c l ?_ j x HX.out (by omega)).mono ?_); exact wa; rintro e w' ⟨rfl, rfl⟩)
            | (go_at_call 110; (with_reducible refine (r_word_x _ A' n' c' l' ?_ j y HY.out (by omega)).mono ?_); exact wb; rintro e w' ⟨rfl, rfl⟩))
          go_ret
          exact retI HE.out.symm (Below.refl _ _)
        · go_wp2_with (first
            | (go_at_call 110; (with_reducible refine (r_word_x _ A n c l ?_ j x HX.out (by omega)).mono ?_); exact wa; rintro e w' ⟨rfl, rfl⟩)
            | (go_at_call 110; (with_reducible refine (r_word_x _ A' n' c' l' ?_ j x HY.out (by omega)).mono ?_); exact wb; rintro e w' ⟨rfl, rfl⟩))
          go_round
          case rel => exact ⟨j, by omega, by go_num, fun i hi => by
            by_cases hij : i = j
            · subst hij; rw [HX.out, HY.out]
            · exact HI.out i (by omega)⟩
          case measure => simp [intOf]
        · have hne : ((x : Int) != (y : Int)) = true := by rw [bne_iff_ne]; omega
          have HE := Lib.hid (show cmpN (val l) (val l') = 1 by
            have := val_lt_of wb.1 (i := j) (by rw [HX.out, HY.out]; exact hxy) (fun i hi => (HI.out i (by omega)).symm)
            unfold cmpN; rw [if_neg (by omega), if_neg (by omega)])
          go_wp2_with (first
            | (go_at_call 110; (with_reducible refine (r_word_x _ A n c l ?_ j x HX.out (by omega)).mono ?_); exact wa; rintro e w' ⟨rfl, rfl⟩)
            | (go_at_call 110; (with_reducible refine (r_word_x _ A' n' c' l' ?_ j y HY.out (by omega)).mono ?_); exact wb; rintro e w' ⟨rfl, rfl⟩))
          go_ret
          exact retI HE.out.symm (Below.refl _ _)
end Go.Proofs.YtmneloabphplmaaGreat

/- Walks: the reference's sums and differences of lists. -/
namespace Go.Proofs.YtmneloabphplmaaGreat
open Go Go.RowKit Bn

theorem wd_snoc_lt {L : List Nat} {d i : Nat} (h : i < L.length) : wd (L ++ [d]) i = wd L i := by
  simp [wd, List.getD, List.getElem?_append_left h]
theorem wd_snoc {L : List Nat} {d : Nat} : wd (L ++ [d]) L.length = d := by simp [wd, List.getD]
theorem Sm_snoc {L : List Nat} {d k : Nat} (h : L.length = k) : Sm (wd (L ++ [d])) (k + 1) = Sm (wd L) k + d * 4294967296 ^ k := by
  subst h
  rw [Sm, wd_snoc, Sm_congr (fun i hi => wd_snoc_lt hi)]
theorem wds_snoc {L : List Nat} {d : Nat} (h : Wds L) (hd : d < 4294967296) : Wds (L ++ [d]) := by
  intro x hx
  rcases List.mem_append.1 hx with h1 | h1
  · exact h x h1
  · simp at h1; omega
theorem words_snoc (L : List Nat) (d : Nat) : words (L ++ [d]) = words L ++ [.int .u32 (d : Nat)] := by simp [words]
theorem own_base {w : World} {base : Nat} {e : TypeId} {size : Nat} {v : Value} {n : Nat} {xs : List Value} (h : w.ownsRow base e size v n xs) : ∀ b, v.ownBlock = some b → base ≤ b := by
  intro b hb
  rcases h.2 with ⟨rfl, _⟩ | ⟨g, c, cur, rfl, h1, _⟩
  · simp [Value.ownBlock] at hb
  · simp [Value.ownBlock] at hb; omega
set_option maxRecDepth 100000 in
set_option maxHeartbeats 1000000 in
theorem r_plus_1 (w : World) (A : Option Addr) (n c : Nat) (l : List Nat) (wa : Wd w A n c l) (hn : n ≤ 1099511627776) (A' : Option Addr) (n' c' : Nat) (l' : List Nat) (wb : Wd w A' n' c' l') (hn' : n' ≤ 1099511627776) (hle : n ≤ n') :
    Calls Tryz.prog 98 #[.slice A n c, .slice A' n' c'] w (RetL w (digs (val l + val l'))) := by
  have HL := Lib.hid wa.2.1
  have HL' := Lib.hid wb.2.1
  obtain ⟨i0, hi0, hz0, hz1, hz2⟩ := info_parts info_u32
  go_enter Tryz.func98, Tryz.ntmps98
  go_wp2_with fail
  go_loopw [5, 6, 15] (fun ov cv iv wr => ∃ (k cr : Nat) (L : List Nat), k ≤ n' + 1 ∧ iv = .int .i64 (k : Nat) ∧ cv = .int .u64 (cr : Nat) ∧ cr ≤ 1 ∧ L.length = k ∧ PlusI l l' L k cr ∧ wr.ownsRow w.heap.size 89 1 ov k (words L) ∧ Below w.heap.size w wr) (fun _ _ iv _ => n' + 1 - (intOf iv).toNat)
  case atStart => exact ⟨0, 0, [], Nat.zero_le _, rfl, rfl, by omega, rfl, ⟨by simp [Wds], by simp [Sm]⟩, ⟨rfl, .inl ⟨rfl, rfl⟩⟩, brefl _⟩
  case round =>
    obtain ⟨k, cr, L, hk, rfl, rfl, hcr, hLk, hI, hown, hbel⟩ := hrel
    have hKp := Lib.hid ((Kp.refl w).below hbel)
    have HI := Lib.hid hI
    have HLk := Lib.hid hLk
    have HO := Lib.hid hown
    clear hI hLk hown
    by_cases hkM : k < n' + 1
    · obtain ⟨x, y, hx, hy⟩ : ∃ x y, wd l k = x ∧ wd l' k = y := ⟨_, _, rfl, rfl⟩
      have hx1 : x < 4294967296 := by rw [← hx]; exact wa.lt k
      have hy1 : y < 4294967296 := by rw [← hy]; exact wb.lt k
      have HX := Lib.hid hx
      have HY := Lib.hid hy
      have hsz := hbel.size
      have HD := Lib.hid (plus_step (x := x) (y := y) HI.out.2)
      clear hx hy
      go_wp2_with (first
        | (go_at_call 110; (with_reducible refine (r_word_x _ A n c l ?_ k x HX.out (by omega)).mono ?_); exact wa.keep hKp.out; rintro e w' ⟨rfl, rfl⟩)
        | (go_at_call 110; (with_reducible refine (r_word_x _ A' n' c' l' ?_ k y HY.out (by omega)).mono ?_); exact wb.keep hKp.out; rintro e w' ⟨rfl, rfl⟩)
        | (at_builtin; refine wpList_append_lies _ rfl _ _ _ rfl w.heap.size 89 i0 (.int .u32 0) 1 4 Tryz.underlying22 hi0 hz0 hz1 hz2 rfl (by omega) _ k (words L) rfl (HO.out.alloc _) ⟨wr.heap.size, 0, none⟩ 1 1 [_] rfl rfl (World.news_of_block (heap_alloc_new wr _)) (by simp [Value.oneCell']) (by omega) (by unfold maxLen; omega) (by omega) (by simp; omega) (wr.heap.size + 1) (by simp) ?_; intro gx cap w1 hown1 hgrow hat hlt1))
      go_roundw
      case rel =>
        refine ⟨k + 1, (cr + x + y) / 4294967296, L ++ [(cr + x + y) % 4294967296], by omega, by go_num, by congr 1; omega, by omega, by simp [HLk.out], ⟨wds_snoc HI.out.1 (Nat.mod_lt _ (by omega)), ?_⟩, ?_, (hbel.alloc hbel.size _).grown hgrow (by simp; omega) (own_base HO.out)⟩
        · rw [Sm_snoc HLk.out, Sm, Sm, HX.out, HY.out, Nat.pow_succ]
          exact HD.out
        · have e : (Value.int .u32 (((x : Int) + y + cr) % 4294967296)) = .int .u32 (((cr + x + y) % 4294967296 : Nat) : Int) := by congr 1; omega
          rw [words_snoc, ← e]; exact hown1
      case measure => simp [intOf]; omega
    · have hkk : k = n' + 1 := by omega
      have hv : val L = val l + val l' := by
        have h1 := HI.out.2
        have h2 := val_lt wa.1
        have h3 := val_lt wb.1
        rw [Sm_ge L (by rw [HLk.out]; exact Nat.le_refl _), Sm_ge l (by rw [← HL.out]; omega), Sm_ge l' (by rw [← HL'.out]; omega)] at h1
        have h4 : 4294967296 ^ l.length ≤ 4294967296 ^ (k - 1) := Nat.pow_le_pow_right (by omega) (by rw [← HL.out]; omega)
        have h5 : 4294967296 ^ l'.length ≤ 4294967296 ^ (k - 1) := Nat.pow_le_pow_right (by omega) (by rw [← HL'.out]; omega)
        have h6 : 4294967296 ^ k = 4294967296 ^ (k - 1) * 4294967296 := by rw [← Nat.pow_succ]; congr 1; omega
        rcases (show cr = 0 ∨ cr = 1 by omega) with rfl | rfl
        · omega
        · omega
      have HV := Lib.hid hv
      obtain ⟨gx, cap, rfl, _, _⟩ := HO.out.form (by omega)
      clear hv hkk
      go_wp2_with fail
      (with_reducible refine (r_trim_c _ _ k cap L ?_ ?_).mono ?_); (exact Wd.of_own HO.out HI.out.1); (omega); rintro e w1 ⟨A1, n1, c1, rfl, h1, hb1⟩
      go_wp2
      go_ret
      rw [HV.out] at h1
      exact ⟨_, _, _, rfl, h1, hbel.trans (hb1.mono hbel.size)⟩
set_option maxRecDepth 100000 in
set_option maxHeartbeats 1000000 in
theorem r_plus_2 (w : World) (A : Option Addr) (n c : Nat) (l : List Nat) (wa : Wd w A n c l) (hn : n ≤ 1099511627776) (A' : Option Addr) (n' c' : Nat) (l' : List Nat) (wb : Wd w A' n' c' l') (hn' : n' ≤ 1099511627776) (hle : n' < n) :
    Calls Tryz.prog 98 #[.slice A n c, .slice A' n' c'] w (RetL w (digs (val l + val l'))) := by
  have HL := Lib.hid wa.2.1
  have HL' := Lib.hid wb.2.1
  obtain ⟨i0, hi0, hz0, hz1, hz2⟩ := info_parts info_u32
  go_enter Tryz.func98, Tryz.ntmps98
  go_wp2_with fail
  go_loopw [5, 6, 15] (fun ov cv iv wr => ∃ (k cr : Nat) (L : List Nat), k ≤ n + 1 ∧ iv = .int .i64 (k : Nat) ∧ cv = .int .u64 (cr : Nat) ∧ cr ≤ 1 ∧ L.length = k ∧ PlusI l l' L k cr ∧ wr.ownsRow w.heap.size 89 1 ov k (words L) ∧ Below w.heap.size w wr) (fun _ _ iv _ => n + 1 - (intOf iv).toNat)
  case atStart => exact ⟨0, 0, [], Nat.zero_le _, rfl, rfl, by omega, rfl, ⟨by simp [Wds], by simp [Sm]⟩, ⟨rfl, .inl ⟨rfl, rfl⟩⟩, brefl _⟩
  case round =>
    obtain ⟨k, cr, L, hk, rfl, rfl, hcr, hLk, hI, hown, hbel⟩ := hrel
    have hKp := Lib.hid ((Kp.refl w).below hbel)
    have HI := Lib.hid hI
    have HLk := Lib.hid hLk
    have HO := Lib.hid hown
    clear hI hLk hown
    by_cases hkM : k < n + 1
    · obtain ⟨x, y, hx, hy⟩ : ∃ x y, wd l k = x ∧ wd l' k = y := ⟨_, _, rfl, rfl⟩
      have hx1 : x < 4294967296 := by rw [← hx]; exact wa.lt k
      have hy1 : y < 4294967296 := by rw [← hy]; exact wb.lt k
      have HX := Lib.hid hx
      have HY := Lib.hid hy
      have hsz := hbel.size
      have HD := Lib.hid (plus_step (x := x) (y := y) HI.out.2)
      clear hx hy
      go_wp2_with (first
        | (go_at_call 110; (with_reducible refine (r_word_x _ A n c l ?_ k x HX.out (by omega)).mono ?_); exact wa.keep hKp.out; rintro e w' ⟨rfl, rfl⟩)
        | (go_at_call 110; (with_reducible refine (r_word_x _ A' n' c' l' ?_ k y HY.out (by omega)).mono ?_); exact wb.keep hKp.out; rintro e w' ⟨rfl, rfl⟩)
        | (at_builtin; refine wpList_append_lies _ rfl _ _ _ rfl w.heap.size 89 i0 (.int .u32 0) 1 4 Tryz.underlying22 hi0 hz0 hz1 hz2 rfl (by omega) _ k (words L) rfl (HO.out.alloc _) ⟨wr.heap.size, 0, none⟩ 1 1 [_] rfl rfl (World.news_of_block (heap_alloc_new wr _)) (by simp [Value.oneCell']) (by omega) (by unfold maxLen; omega) (by omega) (by simp; omega) (wr.heap.size + 1) (by simp) ?_; intro gx cap w1 hown1 hgrow hat hlt1))
      go_roundw
      case rel =>
        refine ⟨k + 1, (cr + x + y) / 4294967296, L ++ [(cr + x + y) % 4294967296], by omega, by go_num, by congr 1; omega, by omega, by simp [HLk.out], ⟨wds_snoc HI.out.1 (Nat.mod_lt _ (by omega)), ?_⟩, ?_, (hbel.alloc hbel.size _).grown hgrow (by simp; omega) (own_base HO.out)⟩
        · rw [Sm_snoc HLk.out, Sm, Sm, HX.out, HY.out, Nat.pow_succ]
          exact HD.out
        · have e : (Value.int .u32 (((x : Int) + y + cr) % 4294967296)) = .int .u32 (((cr + x + y) % 4294967296 : Nat) : Int) := by congr 1; omega
          rw [words_snoc, ← e]; exact hown1
      case measure => simp [intOf]; omega
    · have hkk : k = n + 1 := by omega
      have hv : val L = val l + val l' := by
        have h1 := HI.out.2
        have h2 := val_lt wa.1
        have h3 := val_lt wb.1
        rw [Sm_ge L (by rw [HLk.out]; exact Nat.le_refl _), Sm_ge l (by rw [← HL.out]; omega), Sm_ge l' (by rw [← HL'.out]; omega)] at h1
        have h4 : 4294967296 ^ l.length ≤ 4294967296 ^ (k - 1) := Nat.pow_le_pow_right (by omega) (by rw [← HL.out]; omega)
        have h5 : 4294967296 ^ l'.length ≤ 4294967296 ^ (k - 1) := Nat.pow_le_pow_right (by omega) (by rw [← HL'.out]; omega)
        have h6 : 4294967296 ^ k = 4294967296 ^ (k - 1) * 4294967296 := by rw [← Nat.pow_succ]; congr 1; omega
        rcases (show cr = 0 ∨ cr = 1 by omega) with rfl | rfl
        · omega
        · omega
      have HV := Lib.hid hv
      obtain ⟨gx, cap, rfl, _, _⟩ := HO.out.form (by omega)
      clear hv hkk
      go_wp2_with fail
      (with_reducible refine (r_trim_c _ _ k cap L ?_ ?_).mono ?_); (exact Wd.of_own HO.out HI.out.1); (omega); rintro e w1 ⟨A1, n1, c1, rfl, h1, hb1⟩
      go_wp2
      go_ret
      rw [HV.out] at h1
      exact ⟨_, _, _, rfl, h1, hbel.trans (hb1.mono hbel.size)⟩
theorem r_plus_c (w : World) (A : Option Addr) (n c : Nat) (l : List Nat) (wa : Wd w A n c l) (hn : n ≤ 1099511627776) (A' : Option Addr) (n' c' : Nat) (l' : List Nat) (wb : Wd w A' n' c' l') (hn' : n' ≤ 1099511627776) :
    Calls Tryz.prog 98 #[.slice A n c, .slice A' n' c'] w (RetL w (digs (val l + val l'))) := by
  rcases Nat.lt_or_ge n' n with h | h
  · exact r_plus_2 w A n c l wa hn A' n' c' l' wb hn' h
  · exact r_plus_1 w A n c l wa hn A' n' c' l' wb hn' h
end Go.Proofs.YtmneloabphplmaaGreat

/- Walks: the reference's differences of lists. -/
namespace Go.Proofs.YtmneloabphplmaaGreat
open Go Go.RowKit Bn

theorem own_wd {w : World} {base k : Nat} {v : Value} {L : List Nat} (h : w.ownsRow base 89 1 v k (words L)) (hL : L.length = k) (hw : Wds L) : ∃ B cap, v = .slice B k cap ∧ Wd w B k cap L := by
  rcases Nat.eq_zero_or_pos k with h0 | h0
  · have : L = [] := List.eq_nil_of_length_eq_zero (by rw [hL, h0])
    subst this h0
    rcases h.2 with ⟨e, _⟩ | ⟨gx, cap, cur, e, _⟩
    · exact ⟨none, 0, e, Wd.nil_ _⟩
    · exact ⟨_, cap, e, Wd.of_own (e ▸ h) (by simp [Wds])⟩
  · obtain ⟨gx, cap, e, _, _⟩ := h.form h0
    exact ⟨_, cap, e, Wd.of_own (e ▸ h) hw⟩
set_option maxRecDepth 100000 in
set_option maxHeartbeats 1000000 in
/-- linkworkref01.minus -/
theorem r_minus_c (w : World) (A : Option Addr) (n c : Nat) (l : List Nat) (wa : Wd w A n c l) (hn : n ≤ 1099511627776) (A' : Option Addr) (n' c' : Nat) (l' : List Nat) (wb : Wd w A' n' c' l') (hn' : n' ≤ n) (hv : val l' ≤ val l) :
    Calls Tryz.prog 100 #[.slice A n c, .slice A' n' c'] w (RetL w (digs (val l - val l'))) := by
  have HL := Lib.hid wa.2.1
  have HL' := Lib.hid wb.2.1
  have HV := Lib.hid hv
  obtain ⟨i0, hi0, hz0, hz1, hz2⟩ := info_parts info_u32
  clear hv
  go_enter Tryz.func100, Tryz.ntmps100
  go_wp2_with fail
  go_loopw [5, 6, 11] (fun ov cv iv wr => ∃ (k br : Nat) (L : List Nat), k ≤ n ∧ iv = .int .i64 (k : Nat) ∧ cv = .int .u64 (br : Nat) ∧ br ≤ 1 ∧ L.length = k ∧ LessI l l' L k br ∧ wr.ownsRow w.heap.size 89 1 ov k (words L) ∧ Below w.heap.size w wr) (fun _ _ iv _ => n - (intOf iv).toNat)
  case atStart => exact ⟨0, 0, [], Nat.zero_le _, rfl, rfl, by omega, rfl, ⟨by simp [Wds], by simp [Sm]⟩, ⟨rfl, .inl ⟨rfl, rfl⟩⟩, brefl _⟩
  case round =>
    obtain ⟨k, br, L, hk, rfl, rfl, hbr, hLk, hI, hown, hbel⟩ := hrel
    have hKp := Lib.hid ((Kp.refl w).below hbel)
    have HI := Lib.hid hI
    have HLk := Lib.hid hLk
    have HO := Lib.hid hown
    clear hI hLk hown
    by_cases hkM : k < n
    · obtain ⟨x, y, hx, hy⟩ : ∃ x y, wd l k = x ∧ wd l' k = y := ⟨_, _, rfl, rfl⟩
      have hx1 : x < 4294967296 := by rw [← hx]; exact wa.lt k
      have hy1 : y < 4294967296 := by rw [← hy]; exact wb.lt k
      have HX := Lib.hid hx
      have HY := Lib.hid hy
      have hsz := hbel.size
      clear hx hy
      go_wp2_with (first
        | (go_at_call 110; (with_reducible refine (r_word_x _ A n c l ?_ k x HX.out (by omega)).mono ?_); exact wa.keep hKp.out; rintro e w' ⟨rfl, rfl⟩)
        | (go_at_call 110; (with_reducible refine (r_word_x _ A' n' c' l' ?_ k y HY.out (by omega)).mono ?_); exact wb.keep hKp.out; rintro e w' ⟨rfl, rfl⟩)
        | (at_builtin; refine wpList_append_lies _ rfl _ _ _ rfl w.heap.size 89 i0 (.int .u32 0) 1 4 Tryz.underlying22 hi0 hz0 hz1 hz2 rfl (by omega) _ k (words L) rfl (HO.out.alloc _) ⟨wr.heap.size, 0, none⟩ 1 1 [_] rfl rfl (World.news_of_block (heap_alloc_new wr _)) (by simp [Value.oneCell']) (by omega) (by unfold maxLen; omega) (by omega) (by simp; omega) (wr.heap.size + 1) (by simp) ?_; intro gx cap w1 hown1 hgrow hat hlt1))
      go_roundw
      case rel =>
        refine ⟨k + 1, 1 - (4294967296 + x - y - br) / 4294967296, L ++ [(4294967296 + x - y - br) % 4294967296], by omega, by go_num, by congr 1; omega, by omega, by simp [HLk.out], ⟨wds_snoc HI.out.1 (Nat.mod_lt _ (by omega)), ?_⟩, ?_, (hbel.alloc hbel.size _).grown hgrow (by simp; omega) (own_base HO.out)⟩
        · rw [Sm_snoc HLk.out, Sm, Sm, HX.out, HY.out, Nat.pow_succ]
          exact less_step HI.out.2 (by omega)
        · have e : (Value.int .u32 ((4294967296 + (x : Int) - y - br) % 4294967296)) = .int .u32 (((4294967296 + x - y - br) % 4294967296 : Nat) : Int) := by congr 1; omega
          rw [words_snoc, ← e]; exact hown1
      case measure => simp [intOf]; omega
    · have hkk : k = n := by omega
      subst hkk
      have hv2 : val L = val l - val l' := by
        have h1 := HI.out.2
        have h2 := val_lt HI.out.1
        have h3 := HV.out
        rw [HLk.out] at h2
        rw [Sm_ge L (by rw [HLk.out]; exact Nat.le_refl _), Sm_ge l (by rw [← HL.out]; omega), Sm_ge l' (by rw [← HL'.out]; omega)] at h1
        rcases (show br = 0 ∨ br = 1 by omega) with rfl | rfl
        · omega
        · omega
      have HV2 := Lib.hid hv2
      clear hv2
      have hf := own_wd HO.out HLk.out HI.out.1
      obtain ⟨B, cap, rfl, hw⟩ := hf
      have HW := Lib.hid hw
      clear hw
      go_wp2_with fail
      (with_reducible refine (r_trim_c _ _ k cap L ?_ ?_).mono ?_); (exact HW.out); (omega); rintro e w1 ⟨A1, n1, c1, rfl, h1, hb1⟩
      go_wp2
      go_ret
      rw [HV2.out] at h1
      exact ⟨_, _, _, rfl, h1, hbel.trans (hb1.mono hbel.size)⟩
end Go.Proofs.YtmneloabphplmaaGreat

/- Walks: the reference's Neg, Add, Of. -/
namespace Go.Proofs.YtmneloabphplmaaGreat
open Go Go.RowKit Bn
attribute [local go_sem ↓] Go.wp_at_zero Go.wp_at_succ
theorem r_form_e (w : World) (b : Bool) (A : Option Addr) (n c : Nat) (l : List Nat) (z : Int) (h : Wd w A n c l) (hn : n ≤ 1099511627776) (hz : sgn b (val l) = z) :
    Calls Tryz.prog 81 #[.bool b, .slice A n c] w (RetW w (wh z)) := by subst hz; exact r_form_c w b A n c l h hn
theorem r_compare_x (w : World) (A : Option Addr) (n c : Nat) (l : List Nat) (wa : Wd w A n c l) (hn : n ≤ 1099511627776) (A' : Option Addr) (n' c' : Nat) (l' : List Nat) (wb : Wd w A' n' c' l') (hn' : n' ≤ 1099511627776) (_ : Canon l) (_ : Canon l') :
    Calls Tryz.prog 99 #[.slice A n c, .slice A' n' c'] w (RetV w (.int .i64 (cmpN (val l) (val l')))) := r_compare_c w A n c l wa hn A' n' c' l' wb hn'
set_option maxHeartbeats 2000000 in
/-- integer.Neg -/
theorem r_neg_C (w : World) (b : Bool) (A : Option Addr) (n c : Nat) (l : List Nat) (wa : Wd w A n c l) (hn : n ≤ 1099511627000) :
    Calls Tryz.prog 74 #[.agg #[.bool b, .slice A n c]] w (RetW w (wh (-WD.z ⟨b, l⟩))) := by
  have HL := Lib.hid wa.2.1
  go_enter Tryz.func74, Tryz.ntmps74
  go_wp2_with fail
  have b0 : Below w.heap.size w ((w.alloc (.cells #[.bool b, .slice A n c] 77)).alloc (.cells #[.bool false, .slice none 0 0] 77)) := (((Below.refl _ _).alloc (Nat.le_refl _) _).alloc (by simp) _)
  generalize hW0 : ((w.alloc (.cells #[.bool b, .slice A n c] 77)).alloc (.cells #[.bool false, .slice none 0 0] 77)) = W0 at b0 ⊢
  have c00 : W0.cell? ⟨w.heap.size, 0, none⟩ = some (.bool b) := by subst hW0; simp [go_sem]
  have f00 : W0.frozen? ⟨w.heap.size, 0, none⟩ = false := by subst hW0; simp [go_sem]
  have c01 : W0.cell? ⟨w.heap.size, 1, none⟩ = some (.slice A n c) := by subst hW0; simp [go_sem]
  have f01 : W0.frozen? ⟨w.heap.size, 1, none⟩ = false := by subst hW0; simp [go_sem]
  have c10 : W0.cell? ⟨w.heap.size + 1, 0, none⟩ = some (.bool false) := by subst hW0; simp [go_sem]
  have f10 : W0.frozen? ⟨w.heap.size + 1, 0, none⟩ = false := by subst hW0; simp [go_sem]
  have c11 : W0.cell? ⟨w.heap.size + 1, 1, none⟩ = some (.slice none 0 0) := by subst hW0; simp [go_sem]
  have f11 : W0.frozen? ⟨w.heap.size + 1, 1, none⟩ = false := by subst hW0; simp [go_sem]
  have x0 : Box W0 (w.heap.size) 77 := by subst hW0; exact (boxAt _ _ _ (by simp)).alloc _
  have x1 : Box W0 (w.heap.size + 1) 77 := by subst hW0; exact boxAt _ _ _ (by simp)
  have hm0 : Made (w.heap.size + 1) (w.heap.size + 1 + 1) 2 W0 := by subst hW0; exact made1 (by simp)
  have hs0 : w.heap.size + 1 + 1 ≤ W0.heap.size := by subst hW0; simp
  clear hW0
  have wa := wa.belw b0
  have r0 : Below W0.heap.size W0 W0 := brefl _
  have hRB : w.heap.size + 1 ≤ w.heap.size + 1 + 1 := by omega
  go_region_held3 (fun w' => Sees (w.heap.size + 1) W0 w') (first | exact Sees.of (Nat.le_trans hRB hs0) (by assumption) | exact Sees.of (Nat.le_trans hRB hs0) (below_drewN (by assumption) _) | exact (Sees.set (Sees.of (Nat.le_trans hRB hs0) (by assumption)) (by simp)) | exact (Sees.set (Sees.set (Sees.of (Nat.le_trans hRB hs0) (by assumption)) (by simp)) (by simp)))
    (first
      | (go_at_call 84; (with_reducible refine (r_neg_c _ b A n c l ?_ ?_).mono ?_); (exact wa); (omega); rintro e w1 ⟨rfl, hb1⟩; replace hb1 := bnext (below_drewN (brefl _) 1) hb1; have r1 := bnext r0 hb1; replace wa := wa.belw hb1)
      | (go_at_call 83; (with_reducible refine (r_mag_c _ b A n c l ?_ ?_).mono ?_); (exact wa); (omega); rintro e w2 ⟨A1, n1, c1, rfl, h1, hb2⟩; have r2 := bnext r1 hb2; replace wa := wa.belw hb2)
      | (go_at_call 81; (with_reducible refine (r_form_e _ (!WD.s ⟨b, l⟩) A1 n1 c1 (WD.m ⟨b, l⟩) (-WD.z ⟨b, l⟩) ?_ ?_ ?_).mono ?_); (exact h1); (exact Nat.le_trans (h1.m_len (by rw [← HL.out]; exact hn)) (by decide)); (exact (z_neg _).symm); rintro e w3 ⟨A2, n2, c2, rfl, h2, hb3⟩; have r3 := bnext r2 hb3; replace wa := wa.belw hb3; replace h1 := h1.belw hb3; obtain ⟨⟨sc, sf⟩, sr, sz⟩ := Seen.of (by omega) hs0 hm0 r3))
  clear hRB
  go_wp2_with fail
  refine bodyPost_ret (v := .agg #[.bool _, .slice A2 n2 c2]) (by simp [results, Tryz.results74, go_sem, sr]; rfl) rfl ?_
  have x := x1.below r3
  refine retW ?_ ?_ ?_
  · rfl
  · exact h2.keep (kp2 x (by decide) _ _ _ _)
  · exact ((b0.trans (r3.mono b0.size)).setCell (by dsimp only; omega) _).setCell (by dsimp only; omega) _
set_option maxHeartbeats 2000000 in
/-- integer.Add -/
theorem r_add_c (w : World) (b : Bool) (A : Option Addr) (n c : Nat) (l : List Nat) (wa : Wd w A n c l) (hn : n ≤ 1099511627000) (b' : Bool) (A' : Option Addr) (n' c' : Nat) (l' : List Nat) (wb : Wd w A' n' c' l') (hn' : n' ≤ 1099511627000) :
    Calls Tryz.prog 73 #[.agg #[.bool b, .slice A n c], .agg #[.bool b', .slice A' n' c']] w (RetW w (wh (WD.z ⟨b, l⟩ + WD.z ⟨b', l'⟩))) := by
  have HL := Lib.hid wa.2.1
  have HL' := Lib.hid wb.2.1
  go_enter Tryz.func73, Tryz.ntmps73
  go_wp2_with fail
  have b0 : Below w.heap.size w (((w.alloc (.cells #[.bool b, .slice A n c] 77)).alloc (.cells #[.bool b', .slice A' n' c'] 77)).alloc (.cells #[.bool false, .slice none 0 0] 77)) := ((((Below.refl _ _).alloc (Nat.le_refl _) _).alloc (by simp) _).alloc (by simp; omega) _)
  generalize hW0 : (((w.alloc (.cells #[.bool b, .slice A n c] 77)).alloc (.cells #[.bool b', .slice A' n' c'] 77)).alloc (.cells #[.bool false, .slice none 0 0] 77)) = W0 at b0 ⊢
  have c00 : W0.cell? ⟨w.heap.size, 0, none⟩ = some (.bool b) := by subst hW0; simp [go_sem]
  have f00 : W0.frozen? ⟨w.heap.size, 0, none⟩ = false := by subst hW0; simp [go_sem]
  have c01 : W0.cell? ⟨w.heap.size, 1, none⟩ = some (.slice A n c) := by subst hW0; simp [go_sem]
  have f01 : W0.frozen? ⟨w.heap.size, 1, none⟩ = false := by subst hW0; simp [go_sem]
  have c10 : W0.cell? ⟨w.heap.size + 1, 0, none⟩ = some (.bool b') := by subst hW0; simp [go_sem]
  have f10 : W0.frozen? ⟨w.heap.size + 1, 0, none⟩ = false := by subst hW0; simp [go_sem]
  have c11 : W0.cell? ⟨w.heap.size + 1, 1, none⟩ = some (.slice A' n' c') := by subst hW0; simp [go_sem]
  have f11 : W0.frozen? ⟨w.heap.size + 1, 1, none⟩ = false := by subst hW0; simp [go_sem]
  have c20 : W0.cell? ⟨w.heap.size + 1 + 1, 0, none⟩ = some (.bool false) := by subst hW0; simp [go_sem]
  have f20 : W0.frozen? ⟨w.heap.size + 1 + 1, 0, none⟩ = false := by subst hW0; simp [go_sem]
  have c21 : W0.cell? ⟨w.heap.size + 1 + 1, 1, none⟩ = some (.slice none 0 0) := by subst hW0; simp [go_sem]
  have f21 : W0.frozen? ⟨w.heap.size + 1 + 1, 1, none⟩ = false := by subst hW0; simp [go_sem]
  have x0 : Box W0 (w.heap.size) 77 := by subst hW0; exact ((boxAt _ _ _ (by simp)).alloc _).alloc _
  have x1 : Box W0 (w.heap.size + 1) 77 := by subst hW0; exact (boxAt _ _ _ (by simp)).alloc _
  have x2 : Box W0 (w.heap.size + 1 + 1) 77 := by subst hW0; exact boxAt _ _ _ (by simp)
  have hm0 : Made (w.heap.size + 1 + 1) (w.heap.size + 1 + 1 + 1) 2 W0 := by subst hW0; exact made1 (by simp)
  have hs0 : w.heap.size + 1 + 1 + 1 ≤ W0.heap.size := by subst hW0; simp
  clear hW0
  have wa := wa.belw b0
  have wb := wb.belw b0
  have r0 : Below W0.heap.size W0 W0 := brefl _
  go_region_held3 (fun w' => Seen (w.heap.size + 1 + 1) (w.heap.size + 1 + 1 + 1) 2 W0 w') (first | exact Seen.of (by omega) hs0 hm0 (by assumption) | exact Seen.of (by omega) hs0 hm0 (below_drewN (by assumption) _))
    (first
      | (go_at_call 83; (with_reducible refine (r_mag_c _ b A n c l ?_ ?_).mono ?_); (exact wa); (omega); rintro e w1 ⟨A1, n1, c1, rfl, h1, hb1⟩; replace hb1 := bnext (below_drewN (brefl _) 1) hb1; have r1 := bnext r0 hb1; replace wa := wa.belw hb1; replace wb := wb.belw hb1)
      | (go_at_call 83; (with_reducible refine (r_mag_c _ b' A' n' c' l' ?_ ?_).mono ?_); (exact wb); (omega); rintro e w2 ⟨A2, n2, c2, rfl, h2, hb2⟩; have r2 := bnext r1 hb2; replace wa := wa.belw hb2; replace wb := wb.belw hb2; replace h1 := h1.belw hb2))
  obtain ⟨⟨sc, sf⟩, sr, sz⟩ := Seen.of (by omega) hs0 hm0 r2
  clear sc sf sr sz
  go_wp2_with fail
  go_region_held3 (fun w' => Seen (w.heap.size + 1 + 1) (w.heap.size + 1 + 1 + 1) 2 W0 w') (first | exact Seen.of (by omega) hs0 hm0 (by assumption) | exact Seen.of (by omega) hs0 hm0 (below_drewN (by assumption) _))
    (first
      | (go_at_call 84; (with_reducible refine (r_neg_c _ b A n c l ?_ ?_).mono ?_); (exact wa); (omega); rintro e w3 ⟨rfl, hb3⟩; replace hb3 := bnext (below_drewN (brefl _) 1) hb3; have r3 := bnext r2 hb3; replace wa := wa.belw hb3; replace wb := wb.belw hb3; replace h1 := h1.belw hb3; replace h2 := h2.belw hb3)
      | (go_at_call 84; (with_reducible refine (r_neg_c _ b' A' n' c' l' ?_ ?_).mono ?_); (exact wb); (omega); rintro e w4 ⟨rfl, hb4⟩; have r4 := bnext r3 hb4; replace wa := wa.belw hb4; replace wb := wb.belw hb4; replace h1 := h1.belw hb4; replace h2 := h2.belw hb4))
  obtain ⟨⟨sc, sf⟩, sr, sz⟩ := Seen.of (by omega) hs0 hm0 r4
  have hcm1 : Canon (WD.m ⟨b, l⟩) := WD.canon_m wa.1
  have hcm2 : Canon (WD.m ⟨b', l'⟩) := WD.canon_m wb.1
  have hn1 : n1 ≤ 1099511627000 := h1.m_len (by rw [← HL.out]; exact hn)
  have hn2 : n2 ≤ 1099511627000 := h2.m_len (by rw [← HL'.out]; exact hn')
  by_cases hs : WD.s ⟨b, l⟩ = WD.s ⟨b', l'⟩
  · have hs' : (WD.s ⟨b, l⟩ == WD.s ⟨b', l'⟩) = true := by simp [hs]
    have HZ := Lib.hid (z_same hs)
    clear hs
    rw [hs']
    clear hs'
    go_wp2_with (first
      | (go_at_call 84; (with_reducible refine (r_neg_c _ b A n c l ?_ ?_).mono ?_); (exact wa); (omega); rintro e w5 ⟨rfl, hb5⟩; have r5 := bnext r4 hb5; replace wa := wa.belw hb5; replace wb := wb.belw hb5; replace h1 := h1.belw hb5; replace h2 := h2.belw hb5; (try clear sc sf sr sz); obtain ⟨⟨sc, sf⟩, sr, sz⟩ := Seen.of (by omega) hs0 hm0 r5)
      | (go_at_call 98; (with_reducible refine (r_plus_c _ A1 n1 c1 (WD.m ⟨b, l⟩) ?_ ?_ A2 n2 c2 (WD.m ⟨b', l'⟩) ?_ ?_).mono ?_); (exact h1); (omega); (exact h2); (omega); rintro e w6 ⟨A3, n3, c3, rfl, h3, hb6⟩; have r6 := bnext r5 hb6; replace wa := wa.belw hb6; replace wb := wb.belw hb6; replace h1 := h1.belw hb6; replace h2 := h2.belw hb6; (try clear sc sf sr sz); obtain ⟨⟨sc, sf⟩, sr, sz⟩ := Seen.of (by omega) hs0 hm0 r6)
      | (go_at_call 81; (with_reducible refine (r_form_c _ (WD.s ⟨b, l⟩) A3 n3 c3 (digs (val (WD.m ⟨b, l⟩) + val (WD.m ⟨b', l'⟩))) ?_ ?_).mono ?_); (exact h3); (rw [h3.2.1]; exact plus_len h1 h2 hn1 hn2 (by decide)); rintro e w7 ⟨A4, n4, c4, rfl, h4, hb7⟩; have r7 := bnext r6 hb7; replace wa := wa.belw hb7; replace wb := wb.belw hb7; replace h1 := h1.belw hb7; replace h2 := h2.belw hb7; replace h3 := h3.belw hb7; (try clear sc sf sr sz); obtain ⟨⟨sc, sf⟩, sr, sz⟩ := Seen.of (by omega) hs0 hm0 r7))
    rw [val_digs, ← HZ.out] at h4
    refine bodyPost_ret (v := .agg #[.bool _, .slice A4 n4 c4]) (by simp [results, Tryz.results73, go_sem, sr]; rfl) rfl ?_
    have x := x2.below r7
    refine retW ?_ ?_ ?_
    · rw [HZ.out, val_digs]
    · exact h4.keep (kp2 x (by decide) _ _ _ _)
    · exact ((b0.trans (r7.mono b0.size)).setCell (by dsimp only; omega) _).setCell (by dsimp only; omega) _
  · have hs' : (WD.s ⟨b, l⟩ == WD.s ⟨b', l'⟩) = false := by simp [hs]
    rw [hs']
    clear hs'
    by_cases hv : val (WD.m ⟨b', l'⟩) ≤ val (WD.m ⟨b, l⟩)
    · have hd : decide ((0 : Int) ≤ cmpN (val (WD.m ⟨b, l⟩)) (val (WD.m ⟨b', l'⟩))) = true := by simp [cmpN_le, hv]
      have HZ := Lib.hid (z_more (a := ⟨b, l⟩) (b := ⟨b', l'⟩) hs hv)
      have HV := Lib.hid hv
      clear hs hv
      have hlen : n2 ≤ n1 := len_le h2 h1 hcm2 hcm1 (HV.out)
      go_wp2_with (first
        | (go_at_call 99; (with_reducible refine (r_compare_x _ A1 n1 c1 (WD.m ⟨b, l⟩) ?_ ?_ A2 n2 c2 (WD.m ⟨b', l'⟩) ?_ ?_ hcm1 hcm2).mono ?_); (exact h1); (omega); (exact h2); (omega); rintro e w5 ⟨rfl, hb5⟩; have r5 := bnext r4 hb5; replace wa := wa.belw hb5; replace wb := wb.belw hb5; replace h1 := h1.belw hb5; replace h2 := h2.belw hb5; (try clear sc sf sr sz); obtain ⟨⟨sc, sf⟩, sr, sz⟩ := Seen.of (by omega) hs0 hm0 r5)
        | (go_at_call 84; (with_reducible refine (r_neg_c _ b A n c l ?_ ?_).mono ?_); (exact wa); (omega); rintro e w6 ⟨rfl, hb6⟩; have r6 := bnext r5 hb6; replace wa := wa.belw hb6; replace wb := wb.belw hb6; replace h1 := h1.belw hb6; replace h2 := h2.belw hb6; (try clear sc sf sr sz); obtain ⟨⟨sc, sf⟩, sr, sz⟩ := Seen.of (by omega) hs0 hm0 r6)
        | (go_at_call 100; (with_reducible refine (r_minus_c _ A1 n1 c1 (WD.m ⟨b, l⟩) ?_ ?_ A2 n2 c2 (WD.m ⟨b', l'⟩) ?_ ?_ ?_).mono ?_); (exact h1); (omega); (exact h2); (exact hlen); (exact HV.out); rintro e w7 ⟨A3, n3, c3, rfl, h3, hb7⟩; have r7 := bnext r6 hb7; replace wa := wa.belw hb7; replace wb := wb.belw hb7; replace h1 := h1.belw hb7; replace h2 := h2.belw hb7; (try clear sc sf sr sz); obtain ⟨⟨sc, sf⟩, sr, sz⟩ := Seen.of (by omega) hs0 hm0 r7)
        | (go_at_call 81; (with_reducible refine (r_form_c _ (WD.s ⟨b, l⟩) A3 n3 c3 (digs (val (WD.m ⟨b, l⟩) - val (WD.m ⟨b', l'⟩))) ?_ ?_).mono ?_); (exact h3); (rw [h3.2.1]; exact dlen (Nat.lt_of_le_of_lt (Nat.sub_le _ _) (h1.vlt hn1)) (by decide)); rintro e w8 ⟨A4, n4, c4, rfl, h4, hb8⟩; have r8 := bnext r7 hb8; replace wa := wa.belw hb8; replace wb := wb.belw hb8; replace h1 := h1.belw hb8; replace h2 := h2.belw hb8; replace h3 := h3.belw hb8; (try clear sc sf sr sz); obtain ⟨⟨sc, sf⟩, sr, sz⟩ := Seen.of (by omega) hs0 hm0 r8))
      rw [val_digs, ← HZ.out] at h4
      refine bodyPost_ret (v := .agg #[.bool _, .slice A4 n4 c4]) (by simp [results, Tryz.results73, go_sem, sr]; rfl) rfl ?_
      have x := x2.below r8
      refine retW ?_ ?_ ?_
      · rw [HZ.out, val_digs]
      · exact h4.keep (kp2 x (by decide) _ _ _ _)
      · exact ((b0.trans (r8.mono b0.size)).setCell (by dsimp only; omega) _).setCell (by dsimp only; omega) _
    · have hd : decide ((0 : Int) ≤ cmpN (val (WD.m ⟨b, l⟩)) (val (WD.m ⟨b', l'⟩))) = false := by simp [cmpN_le]; omega
      have HZ := Lib.hid (z_less (a := ⟨b, l⟩) (b := ⟨b', l'⟩) hs (by omega))
      have HV := Lib.hid hv
      clear hs hv
      have hlen : n1 ≤ n2 := len_le h1 h2 hcm1 hcm2 (Nat.le_of_not_le HV.out)
      go_wp2_with (first
        | (go_at_call 99; (with_reducible refine (r_compare_x _ A1 n1 c1 (WD.m ⟨b, l⟩) ?_ ?_ A2 n2 c2 (WD.m ⟨b', l'⟩) ?_ ?_ hcm1 hcm2).mono ?_); (exact h1); (omega); (exact h2); (omega); rintro e w5 ⟨rfl, hb5⟩; have r5 := bnext r4 hb5; replace wa := wa.belw hb5; replace wb := wb.belw hb5; replace h1 := h1.belw hb5; replace h2 := h2.belw hb5; (try clear sc sf sr sz); obtain ⟨⟨sc, sf⟩, sr, sz⟩ := Seen.of (by omega) hs0 hm0 r5)
        | (go_at_call 84; (with_reducible refine (r_neg_c _ b' A' n' c' l' ?_ ?_).mono ?_); (exact wb); (omega); rintro e w6 ⟨rfl, hb6⟩; have r6 := bnext r5 hb6; replace wa := wa.belw hb6; replace wb := wb.belw hb6; replace h1 := h1.belw hb6; replace h2 := h2.belw hb6; (try clear sc sf sr sz); obtain ⟨⟨sc, sf⟩, sr, sz⟩ := Seen.of (by omega) hs0 hm0 r6)
        | (go_at_call 100; (with_reducible refine (r_minus_c _ A2 n2 c2 (WD.m ⟨b', l'⟩) ?_ ?_ A1 n1 c1 (WD.m ⟨b, l⟩) ?_ ?_ ?_).mono ?_); (exact h2); (omega); (exact h1); (exact hlen); (exact Nat.le_of_not_le HV.out); rintro e w7 ⟨A3, n3, c3, rfl, h3, hb7⟩; have r7 := bnext r6 hb7; replace wa := wa.belw hb7; replace wb := wb.belw hb7; replace h1 := h1.belw hb7; replace h2 := h2.belw hb7; (try clear sc sf sr sz); obtain ⟨⟨sc, sf⟩, sr, sz⟩ := Seen.of (by omega) hs0 hm0 r7)
        | (go_at_call 81; (with_reducible refine (r_form_c _ (WD.s ⟨b', l'⟩) A3 n3 c3 (digs (val (WD.m ⟨b', l'⟩) - val (WD.m ⟨b, l⟩))) ?_ ?_).mono ?_); (exact h3); (rw [h3.2.1]; exact dlen (Nat.lt_of_le_of_lt (Nat.sub_le _ _) (h2.vlt hn2)) (by decide)); rintro e w8 ⟨A4, n4, c4, rfl, h4, hb8⟩; have r8 := bnext r7 hb8; replace wa := wa.belw hb8; replace wb := wb.belw hb8; replace h1 := h1.belw hb8; replace h2 := h2.belw hb8; replace h3 := h3.belw hb8; (try clear sc sf sr sz); obtain ⟨⟨sc, sf⟩, sr, sz⟩ := Seen.of (by omega) hs0 hm0 r8))
      rw [val_digs, ← HZ.out] at h4
      refine bodyPost_ret (v := .agg #[.bool _, .slice A4 n4 c4]) (by simp [results, Tryz.results73, go_sem, sr]; rfl) rfl ?_
      have x := x2.below r8
      refine retW ?_ ?_ ?_
      · rw [HZ.out, val_digs]
      · exact h4.keep (kp2 x (by decide) _ _ _ _)
      · exact ((b0.trans (r8.mono b0.size)).setCell (by dsimp only; omega) _).setCell (by dsimp only; omega) _
set_option maxHeartbeats 1000000 in
/-- integer.Of -/
theorem r_of_c (w : World) (i : Int) (h0 : -9223372036854775808 ≤ i) (h1 : i < 9223372036854775808) :
    Calls Tryz.prog 76 #[.int .i64 i] w (RetW w (wh i)) := by
  obtain ⟨v, hv⟩ : ∃ v : Nat, v = i.natAbs := ⟨_, rfl⟩
  have hv2 : v < 18446744073709551616 := by omega
  have hval : val [v % 4294967296, v / 4294967296] = v := by simp [val]; omega
  have HV := Lib.hid hval
  by_cases hneg : i < 0
  · have e1 : IntKind.u64.wrap i = i + 18446744073709551616 := by unfold IntKind.wrap; simp [IntKind.bits, IntKind.signed]; omega
    have e2 : IntKind.u64.wrap (-(i + 18446744073709551616)) = (v : Int) := by unfold IntKind.wrap; simp [IntKind.bits, IntKind.signed]; omega
    have e3 : decide (i < 0) = true := by simp; omega
    have e4 : IntKind.u32.wrap (v : Int) = ((v % 4294967296 : Nat) : Int) := by unfold IntKind.wrap; simp [IntKind.bits, IntKind.signed]
    have e5 : IntKind.u32.wrap ((v : Int) / 4294967296) = ((v / 4294967296 : Nat) : Int) := by unfold IntKind.wrap; simp [IntKind.bits, IntKind.signed]; omega
    have HZ := Lib.hid (show sgn true v = i by simp [sgn]; omega)
    have HV2 := Lib.hid hv2
    clear hv hval hv2 hneg h0 h1
    go_enter Tryz.func76, Tryz.ntmps76
    go_wp2_with (go_at_call 81; (with_reducible refine (r_form_e _ true (some ⟨w.heap.size + 1, 0, none⟩) 2 2 [v % 4294967296, v / 4294967296] i ?_ ?_ ?_).mono ?_); (exact two_word (w.alloc _) _ (by simp) _ _ v (by simp) (by simp) HV2.out); (omega); (rw [HV.out]; exact HZ.out); rintro e w1 ⟨A1, n1, c1, rfl, h1, hb⟩; obtain ⟨hc, hf⟩ := bcell hb)
    have hc0 : w1.cell? ⟨w.heap.size, 0, none⟩ = some (.bool false) := (hc w.heap.size 0 (by simp; omega)).trans (by simp [go_sem])
    have hc1 : w1.cell? ⟨w.heap.size, 1, none⟩ = some (.slice none 0 0) := (hc w.heap.size 1 (by simp; omega)).trans (by simp [go_sem])
    refine bodyPost_ret (v := .agg #[.bool _, .slice A1 n1 c1]) (by simp [results, Tryz.results76, go_sem, hc0, hc1]; rfl) rfl ?_
    have x := ((boxAt w #[.bool false, .slice none 0 0] 77 rfl).alloc _).below hb
    refine retW ?_ ?_ ?_
    · rfl
    · exact h1.keep (kp2 x (by decide) _ _ _ _)
    · exact ((((((Below.refl _ _).alloc (Nat.le_refl _) _).alloc (by simp) _).trans (hb.mono (by simp; omega)))).setCell (by dsimp only; omega) _).setCell (by dsimp only; omega) _
  · have e1 : IntKind.u64.wrap i = (v : Int) := by unfold IntKind.wrap; simp [IntKind.bits, IntKind.signed]; omega
    have e3 : decide (i < 0) = false := by simp; omega
    have e4 : IntKind.u32.wrap (v : Int) = ((v % 4294967296 : Nat) : Int) := by unfold IntKind.wrap; simp [IntKind.bits, IntKind.signed]
    have e5 : IntKind.u32.wrap ((v : Int) / 4294967296) = ((v / 4294967296 : Nat) : Int) := by unfold IntKind.wrap; simp [IntKind.bits, IntKind.signed]; omega
    have HZ := Lib.hid (show sgn false v = i by simp [sgn]; omega)
    have HV2 := Lib.hid hv2
    clear hv hval hv2 hneg h0 h1
    go_enter Tryz.func76, Tryz.ntmps76
    go_wp2_with (go_at_call 81; (with_reducible refine (r_form_e _ false (some ⟨w.heap.size + 1, 0, none⟩) 2 2 [v % 4294967296, v / 4294967296] i ?_ ?_ ?_).mono ?_); (exact two_word (w.alloc _) _ (by simp) _ _ v (by simp) (by simp) HV2.out); (omega); (rw [HV.out]; exact HZ.out); rintro e w1 ⟨A1, n1, c1, rfl, h1, hb⟩; obtain ⟨hc, hf⟩ := bcell hb)
    have hc0 : w1.cell? ⟨w.heap.size, 0, none⟩ = some (.bool false) := (hc w.heap.size 0 (by simp; omega)).trans (by simp [go_sem])
    have hc1 : w1.cell? ⟨w.heap.size, 1, none⟩ = some (.slice none 0 0) := (hc w.heap.size 1 (by simp; omega)).trans (by simp [go_sem])
    refine bodyPost_ret (v := .agg #[.bool _, .slice A1 n1 c1]) (by simp [results, Tryz.results76, go_sem, hc0, hc1]; rfl) rfl ?_
    have x := ((boxAt w #[.bool false, .slice none 0 0] 77 rfl).alloc _).below hb
    refine retW ?_ ?_ ?_
    · rfl
    · exact h1.keep (kp2 x (by decide) _ _ _ _)
    · exact ((((((Below.refl _ _).alloc (Nat.le_refl _) _).alloc (by simp) _).trans (hb.mono (by simp; omega)))).setCell (by dsimp only; omega) _).setCell (by dsimp only; omega) _
end Go.Proofs.YtmneloabphplmaaGreat

/- Walks: the reference's Sign, Sub, Cmp; its contracts as values. -/
namespace Go.Proofs.YtmneloabphplmaaGreat
open Go Go.RowKit Bn
attribute [local go_sem ↓] Go.wp_at_zero Go.wp_at_succ
set_option maxHeartbeats 1000000 in
theorem r_sign_c (w : World) (b : Bool) (A : Option Addr) (n c : Nat) (l : List Nat) (wa : Wd w A n c l) (hn : n ≤ 1099511627000) :
    Calls Tryz.prog 61 #[.agg #[.bool b, .slice A n c]] w (RetV w (.int .i64 (WD.z ⟨b, l⟩).sign)) := by
  have hz := WD.z_eq ⟨b, l⟩
  have hcan : Canon (WD.m ⟨b, l⟩) := WD.canon_m wa.1
  by_cases hm : WD.m ⟨b, l⟩ = []
  · have HE := Lib.hid (show (WD.z ⟨b, l⟩).sign = 0 by rw [hz, hm]; cases WD.s ⟨b, l⟩ <;> rfl)
    have HM := Lib.hid hm
    clear hz hm hcan
    go_enter Tryz.func61, Tryz.ntmps61
    go_wp2_with fail
    (with_reducible refine (r_mag_c _ b A n c l ?_ ?_).mono ?_); (exact wa.keep ((Kp.refl _).alloc _)); (omega); rintro e w1 ⟨A1, n1, c1, rfl, h1, hb⟩
    have hn1 : n1 = 0 := by rw [h1.2.1, HM.out]; rfl
    subst hn1
    go_wp2_with fail
    go_ret
    exact retI HE.out.symm (((Below.refl _ _).alloc (Nat.le_refl _) _).trans (hb.mono (by simp)))
  · obtain ⟨s, hs⟩ : ∃ s, WD.s ⟨b, l⟩ = s := ⟨_, rfl⟩
    have hv : val (WD.m ⟨b, l⟩) ≠ 0 := fun e => hm ((val_eq_zero hcan).1 e)
    have HE := Lib.hid (show (WD.z ⟨b, l⟩).sign = if s then -1 else 1 by
      rw [hz, hs]
      cases s
      · simp only [sgn]; exact Int.sign_eq_one_of_pos (by simp; omega)
      · simp only [sgn]; exact Int.sign_eq_neg_one_of_neg (by simp; omega))
    have HM := Lib.hid hm
    have HS := Lib.hid hs
    clear hz hm hcan hs hv
    go_enter Tryz.func61, Tryz.ntmps61
    go_wp2_with fail
    (with_reducible refine (r_mag_c _ b A n c l ?_ ?_).mono ?_); (exact wa.keep ((Kp.refl _).alloc _)); (omega); rintro e w1 ⟨A1, n1, c1, rfl, h1, hb⟩
    have hn1 : n1 ≠ 0 := fun e => HM.out (List.eq_nil_of_length_eq_zero (by rw [← h1.2.1, e]))
    have e0 : ((n1 : Int) == 0) = false := by simp; omega
    have q : Below w.heap.size w w1 := ((Below.refl _ _).alloc (Nat.le_refl _) _).trans (hb.mono (by simp))
    have x : Blk w1 w.heap.size 77 #[.bool b, .slice A n c] := (blkAt w _ _ rfl).below hb (by simp)
    obtain ⟨cx0, cx1⟩ := x.c2
    clear hb hn1
    go_wp2_with fail
    (with_reducible refine (r_neg_c _ b A n c l ?_ ?_).mono ?_); (exact wa.belw q); (omega); rintro e w2 ⟨rfl, hb2⟩
    rw [HS.out]
    cases s
    all_goals
      go_wp2_with fail
      go_ret
      exact retI HE.out.symm (q.trans (hb2.mono q.size))
theorem cmpI_sub (x y : Int) : (x + -y).sign = cmpI x y := by
  unfold cmpI
  rcases Int.lt_trichotomy x y with h | h | h
  · rw [if_pos h]; exact Int.sign_eq_neg_one_of_neg (by omega)
  · subst h; simp [show x + -x = 0 by omega]
  · rw [if_neg (by omega), if_neg (by omega)]; exact Int.sign_eq_one_of_pos (by omega)
section
variable (w : World) (b : Bool) (A : Option Addr) (n c : Nat) (z : Int) (k : Nat) (h : IZ w b A n c z k) (b' : Bool) (A' : Option Addr) (n' c' : Nat) (z' : Int) (k' : Nat) (h' : IZ w b' A' n' c' z' k')
include h
theorem r01_neg (hk : k ≤ 1000000000) : Calls Tryz.prog 74 #[.agg #[.bool b, .slice A n c]] w (RetI w (-z) k) := by
  have hz := h.lt
  obtain ⟨l, h1, rfl, h3⟩ := h
  exact (r_neg_C w b A n c l h1 (by omega)).mono fun _ _ r => r.i (by omega)
theorem r01_sign (hk : k ≤ 1000000000) : Calls Tryz.prog 61 #[.agg #[.bool b, .slice A n c]] w (RetV w (.int .i64 z.sign)) := by
  obtain ⟨l, h1, rfl, h3⟩ := h
  exact r_sign_c w b A n c l h1 (by omega)
include h'
theorem r01_add (hk : k + k' ≤ 1000000000) : Calls Tryz.prog 73 #[.agg #[.bool b, .slice A n c], .agg #[.bool b', .slice A' n' c']] w (RetI w (z + z') (k + k' + 1)) := by
  have hz := h.mono (Nat.le_add_right k k') |>.lt
  have hz' := h'.mono (Nat.le_add_left k' k) |>.lt
  obtain ⟨l, h1, rfl, h3⟩ := h
  obtain ⟨l', h1', rfl, h3'⟩ := h'
  exact (r_add_c w b A n c l h1 (by omega) b' A' n' c' l' h1' (by omega)).mono fun _ _ r => r.i (natAbs_add_lt hz hz')
end
theorem r01_of (w : World) (i : Int) (k : Nat) (h0 : -9223372036854775808 ≤ i) (h1 : i < 9223372036854775808) (hs : i.natAbs < 4294967296 ^ k) : Calls Tryz.prog 76 #[.int .i64 i] w (RetI w i k) :=
  (r_of_c w i h0 h1).mono fun _ _ r => r.i hs
theorem r01_of1 (w : World) (i : Int) (h0 : -4294967296 < i) (h1 : i < 4294967296) : Calls Tryz.prog 76 #[.int .i64 i] w (RetI w i 1) := r01_of w i 1 (by omega) (by omega) (by omega)
set_option maxRecDepth 100000 in
set_option maxHeartbeats 2000000 in
/-- linkworkref01.Sub -/
theorem r01_sub (w : World) (b : Bool) (A : Option Addr) (n c : Nat) (z : Int) (k : Nat) (h : IZ w b A n c z k) (b' : Bool) (A' : Option Addr) (n' c' : Nat) (z' : Int) (k' : Nat) (h' : IZ w b' A' n' c' z' k') (hk : k + k' ≤ 1000000000) :
    Calls Tryz.prog 80 #[.agg #[.bool b, .slice A n c], .agg #[.bool b', .slice A' n' c']] w (RetI w (z + -z') (k + k' + 1)) := by
  go_enter Tryz.func80, Tryz.ntmps80
  go_wp2_with fail
  have p1 : Kp w (((w.alloc (.cells #[.bool b, .slice A n c] 77)).alloc (.cells #[.bool b', .slice A' n' c'] 77)).alloc (.cells #[.bool false, .slice none 0 0] 77)) := ((((Kp.refl w).alloc (.cells #[.bool b, .slice A n c] 77)).alloc (.cells #[.bool b', .slice A' n' c'] 77)).alloc (.cells #[.bool false, .slice none 0 0] 77))
  have bw1 : Below w.heap.size w (((w.alloc (.cells #[.bool b, .slice A n c] 77)).alloc (.cells #[.bool b', .slice A' n' c'] 77)).alloc (.cells #[.bool false, .slice none 0 0] 77)) := ((((brefl w).alloc (by first | omega | (simp <;> omega)) (.cells #[.bool b, .slice A n c] 77)).alloc (by first | omega | (simp <;> omega)) (.cells #[.bool b', .slice A' n' c'] 77)).alloc (by first | omega | (simp <;> omega)) (.cells #[.bool false, .slice none 0 0] 77))
  have x1_0 : Blk (((w.alloc (.cells #[.bool b, .slice A n c] 77)).alloc (.cells #[.bool b', .slice A' n' c'] 77)).alloc (.cells #[.bool false, .slice none 0 0] 77)) (w.heap.size) 77 #[.bool b, .slice A n c] := (((blkAt _ _ _ (by simp)).alloc (.cells #[.bool b', .slice A' n' c'] 77)).alloc (.cells #[.bool false, .slice none 0 0] 77))
  have x1_1 : Blk (((w.alloc (.cells #[.bool b, .slice A n c] 77)).alloc (.cells #[.bool b', .slice A' n' c'] 77)).alloc (.cells #[.bool false, .slice none 0 0] 77)) (w.heap.size + 1) 77 #[.bool b', .slice A' n' c'] := ((blkAt _ _ _ (by simp)).alloc (.cells #[.bool false, .slice none 0 0] 77))
  have x1_2 : Blk (((w.alloc (.cells #[.bool b, .slice A n c] 77)).alloc (.cells #[.bool b', .slice A' n' c'] 77)).alloc (.cells #[.bool false, .slice none 0 0] 77)) (w.heap.size + 1 + 1) 77 #[.bool false, .slice none 0 0] := (blkAt _ _ _ (by simp))
  have lw1 : w.heap.size + 3 ≤ (((w.alloc (.cells #[.bool b, .slice A n c] 77)).alloc (.cells #[.bool b', .slice A' n' c'] 77)).alloc (.cells #[.bool false, .slice none 0 0] 77)).heap.size := by simp
  generalize hE1 : (((w.alloc (.cells #[.bool b, .slice A n c] 77)).alloc (.cells #[.bool b', .slice A' n' c'] 77)).alloc (.cells #[.bool false, .slice none 0 0] 77)) = w1 at p1 bw1 lw1 x1_0 x1_1 x1_2 ⊢
  clear hE1
  replace h := h.keep p1
  replace h' := h'.keep p1
  obtain ⟨cx1_0_0, cx1_0_1⟩ := x1_0.c2
  obtain ⟨lx1_0_0, lx1_0_1, lx1_0_2, lx1_0_3⟩ := lts0 x1_0.lt
  obtain ⟨cx1_1_0, cx1_1_1⟩ := x1_1.c2
  obtain ⟨lx1_1_0, lx1_1_1, lx1_1_2, lx1_1_3⟩ := lts1 x1_1.lt
  obtain ⟨cx1_2_0, cx1_2_1⟩ := x1_2.c2
  obtain ⟨fx1_2_0, fx1_2_1⟩ := x1_2.f2
  obtain ⟨lx1_2_0, lx1_2_1, lx1_2_2, lx1_2_3⟩ := lts2 x1_2.lt
  have nfx1_0_0 : ¬ w.heap.size = w.heap.size + 1 + 1 := by omega
  have nex1_0_0 : ¬ w.heap.size = w.heap.size + 2 := by omega
  have nfx1_1_0 : ¬ w.heap.size + 1 = w.heap.size + 1 + 1 := by omega
  have nex1_1_0 : ¬ w.heap.size = w.heap.size + 1 := by omega
  go_region_held3 (fun w' => SeesX w1.heap.size (w.heap.size + 1 + 1) w1 w') (first | with_reducible exact SeesX.of (Nat.le_refl _) (by assumption) | with_reducible exact SeesX.of (Nat.le_refl _) (brefl _).drew | with_reducible exact (SeesX.set (SeesX.set (SeesX.of (Nat.le_refl _) (by assumption)))) | with_reducible exact (SeesX.set (SeesX.of (Nat.le_refl _) (by assumption))) | exact SeesX.of (Nat.le_refl _) (below_drewN (brefl _) 1) | exact SeesX.of (Nat.le_refl _) (below_drewN (by assumption) _))
    (first
      | (go_at_call 74; (with_reducible refine (r01_neg _ b' A' n' c' (z') (k') ?_ ?_).mono ?_); (exact h'); (first | omega | decide | assumption); rintro e w2 ⟨b2, A2, n2, c2, rfl, h2, hb2⟩; replace hb2 := bnext (below_drewN (brefl _) 1) hb2; have q2 : Below w1.heap.size w1 w2 := bnext (brefl w1) hb2; replace h := h.belw hb2; replace h' := h'.belw hb2)
      | (go_at_call 73; (with_reducible refine (r01_add _ b A n c (z) (k) ?_ b2 A2 n2 c2 (-(z')) ((k')) ?_ ?_).mono ?_); (exact h); (exact h2.iz); (first | omega | decide | assumption); rintro e w3 ⟨b3, A3, n3, c3, rfl, h3, hb3⟩; have q3 : Below w1.heap.size w1 w3 := bnext q2 hb3; replace h := h.belw hb3; replace h' := h'.belw hb3; replace h2 := h2.belw hb3; have x1_2 : Blk w3 (w.heap.size + 1 + 1) 77 #[.bool false, .slice none 0 0] := x1_2.below q3 x1_2.lt; obtain ⟨cx1_2_0, cx1_2_1⟩ := x1_2.c2; obtain ⟨fx1_2_0, fx1_2_1⟩ := x1_2.f2))
  have bw3 : Below w.heap.size w w3 := bw1.trans (q3.mono bw1.size)
  clear cx1_0_0 cx1_0_1 lx1_0_0 lx1_0_1 lx1_0_2 lx1_0_3 cx1_1_0 cx1_1_1 lx1_1_0 lx1_1_1 lx1_1_2 lx1_1_3 cx1_2_0 fx1_2_0 cx1_2_1 fx1_2_1 lx1_2_0 lx1_2_1 lx1_2_2 lx1_2_3
  replace x1_0 := x1_0.below q3 x1_0.lt
  replace x1_1 := x1_1.below q3 x1_1.lt
  have lw3 : w1.heap.size ≤ w3.heap.size := q3.size
  obtain ⟨cx1_2_0, cx1_2_1⟩ := x1_2.c2
  obtain ⟨fx1_2_0, fx1_2_1⟩ := x1_2.f2
  go_wp2_with fail
  refine bodyPost_ret (v := .agg #[.bool b3, .slice A3 n3 c3]) (by simp [results, Tryz.results80, go_sem, *] <;> first | rfl | exact ⟨rfl, rfl⟩) rfl ?_
  exact ⟨b3, A3, n3, c3, rfl, h3.keep (((Kp.refl w3).setB (p := ⟨w.heap.size + 1 + 1, 0, none⟩) x1_2.box (by decide) (.bool b3)).setB (p := ⟨w.heap.size + 1 + 1, 1, none⟩) (x1_2.box.set ⟨w.heap.size + 1 + 1, 0, none⟩ (.bool b3)) (by decide) (.slice A3 n3 c3)), ((bw3.setCell (p := ⟨w.heap.size + 1 + 1, 0, none⟩) (by dsimp only; omega) (.bool b3)).setCell (p := ⟨w.heap.size + 1 + 1, 1, none⟩) (by dsimp only; omega) (.slice A3 n3 c3))⟩
set_option maxRecDepth 100000 in
set_option maxHeartbeats 2000000 in
/-- linkworkref01.Cmp -/
theorem r01_cmp (w : World) (b : Bool) (A : Option Addr) (n c : Nat) (z : Int) (k : Nat) (h : IZ w b A n c z k) (b' : Bool) (A' : Option Addr) (n' c' : Nat) (z' : Int) (k' : Nat) (h' : IZ w b' A' n' c' z' k') (hk : k + k' ≤ 999999999) :
    Calls Tryz.prog 57 #[.agg #[.bool b, .slice A n c], .agg #[.bool b', .slice A' n' c']] w (RetV w (.int .i64 (cmpI z z'))) := by
  go_enter Tryz.func57, Tryz.ntmps57
  go_wp2_with fail
  (with_reducible refine (r01_sub _ b A n c (z) (k) ?_ b' A' n' c' (z') (k') ?_ ?_).mono ?_); (exact (h.belw (((Below.refl _ _).alloc (Nat.le_refl _) _).alloc (by simp) _))); (exact (h'.belw (((Below.refl _ _).alloc (Nat.le_refl _) _).alloc (by simp) _))); (first | omega | decide | assumption); rintro e w1 ⟨b1, A1, n1, c1, rfl, h1, hb1⟩
  have q1 : Below w.heap.size w w1 := (((Below.refl _ _).alloc (Nat.le_refl _) _).alloc (by simp) _).trans (hb1.mono (by simp <;> omega))
  replace h := h.belw q1
  replace h' := h'.belw q1
  have x1_0 : Blk w1 (w.heap.size) 77 #[.bool b, .slice A n c] := ((blkAt _ _ _ (by simp)).alloc _).below hb1 (by simp <;> omega)
  have x1_1 : Blk w1 (w.heap.size + 1) 77 #[.bool b', .slice A' n' c'] := (blkAt _ _ _ (by simp)).below hb1 (by simp)
  have bw1 : Below w.heap.size w w1 := (brefl w).trans (q1.mono (brefl w).size)
  have lw1 : w.heap.size + 2 ≤ w1.heap.size := by have := hb1.size; simp at this; omega
  clear hb1 q1
  go_wp2_with fail
  (with_reducible refine (r01_sign _ b1 A1 n1 c1 ((z) + -(z')) ((k) + (k') + 1) ?_ ?_).mono ?_); (exact h1.iz); (first | omega | decide | assumption); rintro e w2 ⟨rfl, hb2⟩
  have q2 : Below w1.heap.size w1 w2 := hb2
  replace h := h.belw q2
  replace h' := h'.belw q2
  replace h1 := h1.belw q2
  replace x1_0 := x1_0.below q2 x1_0.lt
  replace x1_1 := x1_1.below q2 x1_1.lt
  have bw2 : Below w.heap.size w w2 := bw1.trans (q2.mono bw1.size)
  have lw2 : w1.heap.size ≤ w2.heap.size := q2.size
  clear hb2 q2 bw1
  go_wp2_with fail
  go_ret
  exact retI (cmpI_sub _ _) bw2
end Go.Proofs.YtmneloabphplmaaGreat

/- Walks: the reference's lists that are changed in their place. -/
namespace Go.Proofs.YtmneloabphplmaaGreat
open Go Go.RowKit Bn

/-- A slice that owns its row from the row's head, and reads as a list of words. -/
def OwS (w : World) (B g n cap : Nat) (l : List Nat) : Prop := w.ownsRow B 89 1 (.slice (some ⟨g, 0, none⟩) n cap) n (words l) ∧ Wds l
theorem OwS.len {w : World} {B g n cap : Nat} {l : List Nat} (h : OwS w B g n cap l) : n = l.length := by have := h.1.1; rw [words_len] at this; omega
theorem OwS.base {w : World} {B g n cap : Nat} {l : List Nat} (h : OwS w B g n cap l) : B ≤ g := own_base h.1 g rfl
theorem OwS.toWd {w : World} {B g n cap : Nat} {l : List Nat} (h : OwS w B g n cap l) : Wd w (some ⟨g, 0, none⟩) n cap l := Wd.of_own h.1 h.2
theorem OwS.cell {w : World} {B g n cap : Nat} {l : List Nat} (h : OwS w B g n cap l) (i : Nat) (hi : i < n) : w.cell? ⟨g, i, none⟩ = some (.int .u32 (wd l i : Nat)) := by
  rw [h.1.cellAt i (by omega)]; exact words_get (by rw [← h.len]; exact hi)
theorem OwS.frozen {w : World} {B g n cap : Nat} {l : List Nat} (h : OwS w B g n cap l) (i : Nat) : w.frozen? ⟨g, i, none⟩ = false := h.1.frozenAt i
theorem OwS.lt {w : World} {B g n cap : Nat} {l : List Nat} (h : OwS w B g n cap l) : g < w.heap.size := by
  rcases h.1.2 with ⟨e, _⟩ | ⟨g', c', cur, e, _, hg, _⟩
  · cases e
  · injection e with e; injection e with e; injection e with e; subst e; exact lt_of_block hg
theorem OwS.cap {w : World} {B g n cap : Nat} {l : List Nat} (h : OwS w B g n cap l) : n ≤ cap := h.toWd.2.2.1
theorem OwS.cut {w : World} {B g n cap : Nat} {l : List Nat} (h : OwS w B g n cap l) {k : Nat} (hk : k ≤ n) : OwS w B g k cap (l.take k) := by
  have hl := h.len
  refine ⟨⟨by rw [words_len, List.length_take]; omega, ?_⟩, Wds.take h.2 k⟩
  rcases h.1.2 with ⟨e, _⟩ | ⟨g', c', cur, e, hb, hg, hc, hm, hs, ht⟩
  · cases e
  · injection e with e1 _ e2; injection e1 with e1; injection e1 with e1; subst e1 e2
    refine .inr ⟨g, cap, cur, rfl, hb, hg, by omega, hm, hs, ?_⟩
    have : words (l.take k) = (words l).take k := by simp [words, List.map_take]
    rw [this, ← ht, List.take_take]; congr 1; omega
theorem words_set (l : List Nat) (i x : Nat) : (words l).set i (.int .u32 (x : Nat)) = words (l.set i x) := by simp [words, List.map_set]
theorem OwS.set {w : World} {B g n cap : Nat} {l : List Nat} (h : OwS w B g n cap l) (i : Nat) {x : Nat} (hx : x < 4294967296) {z : Int} (hz : z = x) : OwS (w.setCell ⟨g, i, none⟩ (.int .u32 z)) B g n cap (l.set i x) := by
  subst hz
  refine ⟨?_, wds_set h.2 i hx⟩
  rw [← words_set]
  exact (h.1.stored i _).1
/-- All but block g is as it was. -/
def Only (g : Nat) (w w' : World) : Prop := Below g w w' ∧ w'.heap.size = w.heap.size ∧ ∀ b, b ≠ g → w'.heap[b]? = w.heap[b]?
theorem Only.refl (g : Nat) (w : World) : Only g w w := ⟨Below.refl _ _, rfl, fun _ _ => rfl⟩
theorem Only.set {g : Nat} {w w' : World} (h : Only g w w') (i : Nat) (u : Value) : Only g w (w'.setCell ⟨g, i, none⟩ u) :=
  ⟨h.1.setCell (p := ⟨g, i, none⟩) (Nat.le_refl _) u, by rw [← h.2.1]; simp [World.setCell], fun b hb => (Below.heap_setCell w' ⟨g, i, none⟩ u b hb).trans (h.2.2 b hb)⟩
theorem Only.trans {g : Nat} {a b c : World} (h : Only g a b) (k : Only g b c) : Only g a c := ⟨h.1.trans k.1, k.2.1.trans h.2.1, fun x hx => (k.2.2 x hx).trans (h.2.2 x hx)⟩
theorem Only.own {g : Nat} {w w' : World} (h : Only g w w') {B g' n cap : Nat} {l : List Nat} (k : OwS w B g' n cap l) (hg : g' ≠ g) : OwS w' B g' n cap l := by
  refine ⟨⟨k.1.1, ?_⟩, k.2⟩
  rcases k.1.2 with ⟨e, _⟩ | ⟨g1, c', cur, e, hb, hgg, r⟩
  · cases e
  · have e' := e
    injection e with e1 _ e2; injection e1 with e1; injection e1 with e1; subst e1
    exact .inr ⟨g', c', cur, e', hb, (h.2.2 _ hg).trans hgg, r⟩
theorem Only.wd {g : Nat} {w w' : World} (h : Only g w w') {g' o n c : Nat} {l : List Nat} (k : Wd w (some ⟨g', o, none⟩) n c l) (hg : g' ≠ g) : Wd w' (some ⟨g', o, none⟩) n c l := by
  refine ⟨k.1, k.2.1, k.2.2.1, fun hn => ?_⟩
  obtain ⟨g1, o1, cur, fr, e, hb, hc⟩ := k.2.2.2 hn
  have e' := e
  injection e with e1; injection e1 with e1; subst e1
  exact ⟨_, o1, cur, fr, e', hb.same (h.2.2 _ hg), hc⟩
/-- An owned slice of words returned. -/
def RetO (w : World) (l : List Nat) (e : Ending) (w' : World) : Prop := ∃ g k cap, e = .returned (.slice (some ⟨g, 0, none⟩) k cap) ∧ OwS w' w.heap.size g k cap l ∧ Below w.heap.size w w'
/-- linkworkref01.trim -/
theorem r_trim_o (w : World) (A : Option Addr) (n c : Nat) (l : List Nat) (h : Wd w A n c l) (hn : n ≤ 4398046511104) :
    Calls Tryz.prog 101 #[.slice A n c] w (RetO w (digs (val l))) := by
  have HL := Lib.hid h.2.1
  have hcap : n ≤ c := h.2.2.1
  obtain ⟨i0, hi0, hz0, hz1, hz2⟩ := info_parts info_u32
  by_cases h0 : n = 0
  · subst h0
    have HE := Lib.hid (show digs (val l) = [] by rw [List.eq_nil_of_length_eq_zero HL.out.symm]; exact digs_zero)
    clear h hn
    go_enter Tryz.func101, Tryz.ntmps101
    go_wp2_with (at_builtin; refine wpList_append_empty rfl _ _ _ rfl 89 i0 Tryz.underlying22 hi0 _ _ _ rfl rfl ?_)
    go_loop [3] (fun v => v = .slice (some ⟨w.heap.size, 0, none⟩) 0 0) (fun _ => 0)
    case atStart => rfl
    case round =>
      subst hrel
      go_wp2
      go_ret
      refine ⟨_, _, _, rfl, ?_, (Below.refl _ _).alloc (Nat.le_refl _) _⟩
      rw [HE.out]
      exact ⟨World.ownsRow_lit (e := 89) (size := 1) w #[] 0 (Nat.le_refl _) (by simp [maxLen]) rfl, by simp [Wds]⟩
  · obtain ⟨g, o, rfl, hc⟩ := h.at_ (by omega)
    clear hc
    have hp : 0 < n := by omega
    have hown := World.ownsRow_lit (e := 89) (size := 1) w #[] 0 (Nat.le_refl _) (by simp [maxLen]) rfl
    have hnews := (h.keep ((Kp.refl w).alloc (.cells #[] 89))).news (by omega) (Nat.le_refl _)
    have hnl : (words (l.take n)).length = n * 1 := by rw [words_len, List.length_take, ← HL.out]; omega
    have HO := Lib.hid hown
    have HN := Lib.hid hnews
    have HNL := Lib.hid hnl
    have HW := Lib.hid h.1
    clear hown hnews hnl h h0
    go_enter Tryz.func101, Tryz.ntmps101
    go_wp2_with (at_builtin; refine wpList_append_lies _ rfl _ _ _ rfl w.heap.size 89 i0 (.int .u32 0) 1 4 Tryz.underlying22 hi0 hz0 hz1 hz2 rfl (by omega) _ 0 [] rfl HO.out ⟨g, o, none⟩ n c (words (l.take n)) rfl HNL.out HN.out (words_one _) (by omega) (by unfold maxLen; omega) (by omega) (by simp) (w.heap.size + 1) (by simp) ?_; intro gx cap w1 hown1 hgrow hat hlt1)
    simp only [Nat.zero_add, List.nil_append] at hown1
    have hw1 := Wd.of_own hown1 (Wds.take HW.out n)
    rw [List.take_of_length_le (Nat.le_of_eq HL.out.symm)] at hw1
    have hbel := ((Below.refl w.heap.size w).alloc (Nat.le_refl _) (.cells #[] 89)).grown hgrow (by simp) (fun b hb => Nat.le_of_eq (Option.some.inj hb))
    have HW1 := Lib.hid hw1
    rw [List.take_of_length_le (Nat.le_of_eq HL.out.symm)] at hown1
    have HOW := Lib.hid (show OwS w1 w.heap.size gx n cap l from ⟨hown1, HW.out⟩)
    have HB := Lib.hid hbel
    have hcap1 : n ≤ cap := hw1.2.2.1
    clear hown1 hgrow hat hw1 hbel HO HN HNL
    go_loop [3] (fun v => ∃ k : Nat, k ≤ n ∧ v = .slice (some ⟨gx, 0, none⟩) k cap ∧ TrimI l k) (fun v => match v with | .slice _ k _ => k | _ => 0)
    case atStart => exact ⟨n, Nat.le_refl _, by simp, fun i hi => wd_ge (by rw [← HL.out]; exact hi)⟩
    case round =>
      obtain ⟨k, hk, rfl, ht⟩ := hrel
      by_cases h0 : k = 0
      · subst h0
        have HT := Lib.hid ht
        clear ht
        go_wp2
        go_ret
        refine ⟨_, _, _, rfl, ?_, HB.out⟩
        have := digs_of_take HW.out (Nat.zero_le _) HT.out (.inl rfl)
        rw [this]; exact HOW.out.cut (Nat.zero_le _)
      · have hkp : 0 < k := by omega
        obtain ⟨g', o', e, hc⟩ := HW1.out.at_ (by omega)
        injection e with e; injection e with e1 e2
        subst e1 e2
        have hck := hc (k - 1) (by omega)
        rw [Nat.zero_add] at hck
        have hlt := HW1.out.lt (k - 1)
        have HT := Lib.hid ht
        generalize hx : wd l (k - 1) = x at *
        have HX := Lib.hid hx
        clear hc h0 ht hx
        by_cases hz : x = 0
        · subst hz
          go_wp2
          go_round
          case rel => exact ⟨k - 1, by omega, rfl, fun i hi => by
            by_cases he : i = k - 1
            · subst he; exact HX.out
            · exact HT.out i (by omega)⟩
          case measure => dsimp only; omega
        · have hz' : ((x : Int) == 0) = false := by simp; omega
          have HZ := Lib.hid hz
          clear hz
          go_wp2
          go_ret
          have hd := digs_of_take HW.out (by rw [← HL.out]; exact hk) HT.out (.inr (by rw [HX.out]; exact HZ.out))
          refine ⟨_, _, _, rfl, ?_, HB.out⟩
          rw [hd]; exact HOW.out.cut hk
/-- linkworkref01.cut -/
def RetC (w : World) (B g cap : Nat) (l : List Nat) (e : Ending) (w' : World) : Prop := ∃ k, e = .returned (.slice (some ⟨g, 0, none⟩) k cap) ∧ OwS w' B g k cap l ∧ w = w'
set_option maxHeartbeats 1000000 in
theorem r_cut_o (w : World) (B g n cap : Nat) (l : List Nat) (h : OwS w B g n cap l) (hn : n ≤ 4398046511104) :
    Calls Tryz.prog 104 #[.slice (some ⟨g, 0, none⟩) n cap] w (RetC w B g cap (digs (val l))) := by
  have hcap := h.cap
  have HL := Lib.hid h.len
  have HO := Lib.hid h
  clear h
  go_enter Tryz.func104, Tryz.ntmps104
  go_wp2_with fail
  go_loop [0] (fun v => ∃ k : Nat, k ≤ n ∧ v = .slice (some ⟨g, 0, none⟩) k cap ∧ TrimI l k) (fun v => match v with | .slice _ k _ => k | _ => 0)
  case atStart => exact ⟨n, Nat.le_refl _, rfl, fun i hi => wd_ge (by rw [← HL.out]; exact hi)⟩
  case round =>
    obtain ⟨k, hk, rfl, ht⟩ := hrel
    by_cases h0 : k = 0
    · subst h0
      have HT := Lib.hid ht
      clear ht
      go_wp2
      go_ret
      refine ⟨_, rfl, ?_, rfl⟩
      have := digs_of_take HO.out.2 (Nat.zero_le _) HT.out (.inl rfl)
      rw [this]; exact HO.out.cut (Nat.zero_le _)
    · have hkp : 0 < k := by omega
      have hck := HO.out.cell (k - 1) (by omega)
      have hlt := wd_lt HO.out.2 (k - 1)
      have HT := Lib.hid ht
      generalize hx : wd l (k - 1) = x at *
      have HX := Lib.hid hx
      clear h0 ht hx
      by_cases hz : x = 0
      · subst hz
        go_wp2
        go_round
        case rel => exact ⟨k - 1, by omega, rfl, fun i hi => by
          by_cases he : i = k - 1
          · subst he; exact HX.out
          · exact HT.out i (by omega)⟩
        case measure => dsimp only; omega
      · have hz' : ((x : Int) == 0) = false := by simp; omega
        have HZ := Lib.hid hz
        clear hz
        go_wp2
        go_ret
        have hd := digs_of_take HO.out.2 (by rw [← HL.out]; exact hk) HT.out (.inr (by rw [HX.out]; exact HZ.out))
        refine ⟨_, rfl, ?_, rfl⟩
        rw [hd]; exact HO.out.cut hk
end Go.Proofs.YtmneloabphplmaaGreat

/- Walks: the reference's halving in place. -/
namespace Go.Proofs.YtmneloabphplmaaGreat
open Go Go.RowKit Bn

theorem half_nat {x y : Nat} (hx : x < 4294967296) : (x / 2 ||| y * 2147483648) % 4294967296 = x / 2 + (y % 2) * 2147483648 := by
  have h1 : x / 2 < 2 ^ 31 := by omega
  have h2 : y * 2147483648 ||| x / 2 = y * 2147483648 + x / 2 := by
    have := Nat.shiftLeft_add_eq_or_of_lt h1 y
    rw [Nat.shiftLeft_eq] at this
    exact this.symm
  rw [Nat.or_comm, h2]; omega
def HalveI (l L : List Nat) (j : Nat) : Prop := Wds L ∧ L.length = l.length ∧ (∀ i, j ≤ i → wd L i = wd l i) ∧ 2 * Sm (wd L) j + wd l 0 % 2 = Sm (wd l) j + wd l j % 2 * 4294967296 ^ j
theorem HalveI.start {l : List Nat} (h : Wds l) : HalveI l l 0 := ⟨h, rfl, fun _ _ => rfl, by simp [Sm]⟩
theorem HalveI.step {l L : List Nat} {j : Nat} (h : HalveI l L j) (hj : j < l.length) (hl : Wds l) : HalveI l (L.set j (wd l j / 2 + (wd l (j + 1) % 2) * 2147483648)) (j + 1) := by
  obtain ⟨h1, h2, h3, h4⟩ := h
  have hx := wd_lt hl j
  refine ⟨wds_set h1 j (by omega), by rw [List.length_set]; exact h2, fun i hi => ?_, ?_⟩
  · rw [wd_set, if_neg (by omega)]; exact h3 i (by omega)
  · rw [Sm_set_succ _ _ _ (by omega), Sm]
    generalize wd l j = x at *
    generalize wd l (j + 1) = y at *
    generalize wd l 0 = z at *
    rw [Nat.pow_succ]
    have e : 2 * ((x / 2 + y % 2 * 2147483648) * 4294967296 ^ j) + x % 2 * 4294967296 ^ j = x * 4294967296 ^ j + y % 2 * (4294967296 ^ j * 4294967296) := by
      have hx2 : x = 2 * (x / 2) + x % 2 := by omega
      generalize x / 2 = p at *
      generalize x % 2 = r at *
      subst hx2
      generalize 4294967296 ^ j = P
      grind
    omega
theorem HalveI.fin {l L : List Nat} (h : HalveI l L l.length) : val L = val l / 2 := by
  obtain ⟨h1, h2, h3, h4⟩ := h
  rw [Sm_ge L (by omega), Sm_ge l (Nat.le_refl _), wd_ge (Nat.le_refl _)] at h4
  omega
theorem half_word {x y : Nat} (hx : x < 4294967296) (hy : y < 4294967296) {s : Int} (hs : bits .or .u64 ((x : Int) / 2) ((y : Int) * 2147483648) = s) : IntKind.u32.wrap s = ((x / 2 + y % 2 * 2147483648 : Nat) : Int) := by
  have e1 : (x : Int) / 2 = ((x / 2 : Nat) : Int) := by omega
  have e2 : (y : Int) * 2147483648 = ((y * 2147483648 : Nat) : Int) := by simp
  rw [e1, e2, u64_or_nat _ _ (by omega) (by omega)] at hs
  subst hs
  rw [IntKind.wrap_u32]
  have := half_nat (y := y) hx
  omega
/-- What halve returns: the row halved, in its place. -/
def RetH (w : World) (B g cap : Nat) (l : List Nat) (e : Ending) (w' : World) : Prop := ∃ k, e = .returned (.slice (some ⟨g, 0, none⟩) k cap) ∧ OwS w' B g k cap l ∧ Only g w w'
set_option maxRecDepth 100000 in
set_option maxHeartbeats 1000000 in
/-- linkworkref01.halve -/
theorem r_halve_o (w : World) (B g n cap : Nat) (l : List Nat) (h : OwS w B g n cap l) (hn : n ≤ 1099511627776) :
    Calls Tryz.prog 102 #[.slice (some ⟨g, 0, none⟩) n cap] w (RetH w B g cap (digs (val l / 2))) := by
  have hcap := h.cap
  have hlen := h.len
  have HL := Lib.hid h.len
  have HW := Lib.hid h.2
  have HS := Lib.hid (HalveI.start h.2)
  have HO := Lib.hid h
  clear h hlen
  go_enter Tryz.func102, Tryz.ntmps102
  go_wp2_with fail
  go_loopw [6] (fun iv wr => ∃ (j : Nat) (L : List Nat), j ≤ n ∧ iv = .int .i64 (j : Nat) ∧ HalveI l L j ∧ OwS wr B g n cap L ∧ Only g w wr) (fun iv _ => n - (intOf iv).toNat)
  case atStart => exact ⟨0, l, Nat.zero_le _, rfl, HS.out, HO.out, Only.refl _ _⟩
  case round =>
    obtain ⟨j, L, hj, rfl, hI, hw, hon⟩ := hrel
    have HI := Lib.hid hI
    have HWr := Lib.hid hw
    have HOn := Lib.hid hon
    clear hI hw hon
    by_cases hlt : j < n
    · obtain ⟨x, y, hx, hy⟩ : ∃ x y, wd l j = x ∧ wd l (j + 1) = y := ⟨_, _, rfl, rfl⟩
      have hx1 : x < 4294967296 := by rw [← hx]; exact wd_lt HW.out j
      have hy1 : y < 4294967296 := by rw [← hy]; exact wd_lt HW.out (j + 1)
      have HX := Lib.hid (show wd L j = x by rw [HI.out.2.2.1 j (Nat.le_refl _), hx])
      have HY := Lib.hid (show wd L (j + 1) = y by rw [HI.out.2.2.1 (j + 1) (by omega), hy])
      have HXY := Lib.hid (And.intro hx hy)
      have hck := HWr.out.cell j hlt
      have hfk := HWr.out.frozen j
      obtain ⟨s, hs⟩ : ∃ s, bits .or .u64 ((x : Int) / 2) ((y : Int) * 2147483648) = s := ⟨_, rfl⟩
      have e32 := half_word hx1 hy1 hs
      have HE := Lib.hid e32
      have ej : ((j : Int) + 1) = ((j + 1 : Nat) : Int) := by omega
      have HEJ := Lib.hid ej
      clear hx hy ej
      go_wp2_with (first
        | (go_at_call 110; (with_reducible refine (r_word_x _ (some ⟨g, 0, none⟩) n cap L ?_ j x HX.out (by omega)).mono ?_); exact HWr.out.toWd; rintro e w' ⟨rfl, rfl⟩)
        | (go_at_call 110; rw [HEJ.out]; (with_reducible refine (r_word_x _ (some ⟨g, 0, none⟩) n cap L ?_ (j + 1) y HY.out (by omega)).mono ?_); exact HWr.out.toWd; rintro e w' ⟨rfl, rfl⟩))
      go_roundw
      case rel =>
        have hst := HI.out.step (by rw [← HL.out]; exact hlt) HW.out
        rw [HXY.out.1, HXY.out.2] at hst
        exact ⟨j + 1, _, by omega, by go_num, hst, HWr.out.set j (by omega) (by omega), HOn.out.set j _⟩
      case measure => simp [intOf]; omega
    · have hjn : j = n := by omega
      subst hjn
      have HV := Lib.hid (show val L = val l / 2 from HalveI.fin (by have := HI.out; rw [HL.out] at this; exact this))
      go_wp2_with fail
      (with_reducible refine (r_cut_o _ B g j cap L ?_ ?_).mono ?_); (exact HWr.out); (omega); rintro e w1 ⟨k, rfl, h1, rfl⟩
      go_wp2
      go_ret
      rw [HV.out] at h1
      exact ⟨k, rfl, h1, HOn.out⟩
end Go.Proofs.YtmneloabphplmaaGreat

/- Walks: the reference's subtraction in place. -/
namespace Go.Proofs.YtmneloabphplmaaGreat
open Go Go.RowKit Bn

theorem Only.wd_ {g : Nat} {w w' : World} (h : Only g w w') {A : Option Addr} {n c : Nat} {l : List Nat} (k : Wd w A n c l) (hne : ∀ ad, A = some ad → ad.block ≠ g) : Wd w' A n c l := by
  refine ⟨k.1, k.2.1, k.2.2.1, fun hn => ?_⟩
  obtain ⟨g1, o1, cur, fr, e, hb, hc⟩ := k.2.2.2 hn
  exact ⟨g1, o1, cur, fr, e, hb.same (h.2.2 _ (hne _ e)), hc⟩
/-- What take leaves. -/
def RetTk (w : World) (B g n cap : Nat) (v : Nat) (e : Ending) (w' : World) : Prop := ∃ L, e = .returned (.tuple #[]) ∧ OwS w' B g n cap L ∧ val L = v ∧ Only g w w'
def TakeI (l l' L : List Nat) (k br : Nat) : Prop := LessI l l' L k br ∧ L.length = l.length ∧ ∀ i, k ≤ i → wd L i = wd l i
set_option maxRecDepth 100000 in
set_option maxHeartbeats 1000000 in
/-- linkworkref01.take -/
theorem r_take_o (w : World) (B g n cap : Nat) (l : List Nat) (h : OwS w B g n cap l) (hn : n ≤ 1099511627776) (A' : Option Addr) (n' c' : Nat) (l' : List Nat) (wb : Wd w A' n' c' l') (hne : ∀ ad, A' = some ad → ad.block ≠ g) (hn' : n' ≤ n) (hv : val l' ≤ val l) :
    Calls Tryz.prog 103 #[.slice (some ⟨g, 0, none⟩) n cap, .slice A' n' c'] w (RetTk w B g n cap (val l - val l')) := by
  have hcap := h.cap
  have HL := Lib.hid h.len
  have HL' := Lib.hid wb.2.1
  have HW := Lib.hid h.2
  have HV := Lib.hid hv
  have HO := Lib.hid h
  have HWB := Lib.hid wb
  have HNE := Lib.hid hne
  clear h hv wb hne
  go_enter Tryz.func103, Tryz.ntmps103
  go_wp2_with fail
  go_loopw [4, 9] (fun cv iv wr => ∃ (k br : Nat) (L : List Nat), k ≤ n ∧ iv = .int .i64 (k : Nat) ∧ cv = .int .u64 (br : Nat) ∧ br ≤ 1 ∧ TakeI l l' L k br ∧ OwS wr B g n cap L ∧ Only g w wr) (fun _ iv _ => n - (intOf iv).toNat)
  case atStart => exact ⟨0, 0, l, Nat.zero_le _, rfl, rfl, by omega, ⟨⟨HW.out, by simp [Sm]⟩, rfl, fun _ _ => rfl⟩, HO.out, Only.refl _ _⟩
  case round =>
    obtain ⟨k, br, L, hk, rfl, rfl, hbr, hI, hw, hon⟩ := hrel
    have HI := Lib.hid hI
    have HWr := Lib.hid hw
    have HOn := Lib.hid hon
    clear hI hw hon
    by_cases hkM : k < n
    · obtain ⟨x, y, hx, hy⟩ : ∃ x y, wd l k = x ∧ wd l' k = y := ⟨_, _, rfl, rfl⟩
      have hx1 : x < 4294967296 := by rw [← hx]; exact wd_lt HW.out k
      have hy1 : y < 4294967296 := by rw [← hy]; exact HWB.out.lt k
      have HX := Lib.hid (show wd L k = x by rw [HI.out.2.2 k (Nat.le_refl _), hx])
      have HY := Lib.hid hy
      have HXl := Lib.hid hx
      have hck := HWr.out.cell k hkM
      have hfk := HWr.out.frozen k
      clear hx hy
      go_wp2_with (first
        | (go_at_call 110; (with_reducible refine (r_word_x _ (some ⟨g, 0, none⟩) n cap L ?_ k x HX.out (by omega)).mono ?_); exact HWr.out.toWd; rintro e w' ⟨rfl, rfl⟩)
        | (go_at_call 110; (with_reducible refine (r_word_x _ A' n' c' l' ?_ k y HY.out (by omega)).mono ?_); exact HOn.out.wd_ HWB.out HNE.out; rintro e w' ⟨rfl, rfl⟩))
      go_roundw
      case rel =>
        refine ⟨k + 1, 1 - (4294967296 + x - y - br) / 4294967296, L.set k ((4294967296 + x - y - br) % 4294967296), by omega, by go_num, by congr 1; omega, by omega, ⟨⟨wds_set HI.out.1.1 _ (Nat.mod_lt _ (by omega)), ?_⟩, by rw [List.length_set]; exact HI.out.2.1, fun i hi => ?_⟩, HWr.out.set k (Nat.mod_lt _ (by omega)) (by omega), HOn.out.set k _⟩
        · rw [Sm_set_succ _ _ _ (by rw [HI.out.2.1, ← HL.out]; exact hkM), Sm, Sm, HXl.out, HY.out, Nat.pow_succ]
          exact less_step HI.out.1.2 (by omega)
        · rw [wd_set, if_neg (by omega)]; exact HI.out.2.2 i (by omega)
      case measure => simp [intOf]; omega
    · have hkk : k = n := by omega
      subst hkk
      have hv2 : val L = val l - val l' := by
        have h1 := HI.out.1.2
        have h2 := val_lt HI.out.1.1
        have h3 := HV.out
        have h4 := HI.out.2.1
        have h5 := HL.out
        rw [h4, ← h5] at h2
        rw [Sm_ge L (by omega), Sm_ge l (by omega), Sm_ge l' (by rw [← HL'.out]; omega)] at h1
        rcases (show br = 0 ∨ br = 1 by omega) with rfl | rfl
        · omega
        · omega
      have HV2 := Lib.hid hv2
      clear hv2
      go_wp2_with fail
      go_end0
      exact ⟨L, rfl, HWr.out, HV2.out, HOn.out⟩
end Go.Proofs.YtmneloabphplmaaGreat

/- Walks: the reference's greatest common divisor, by halving and subtracting. -/
namespace Go.Proofs.YtmneloabphplmaaGreat
open Go Go.RowKit Bn

/-- Two rows of the call's own, with their numbers. -/
def Two (w wr : World) (N : Nat) (va vb : Value) (x y : Nat) : Prop := ∃ ga na ca gb nb cb, va = .slice (some ⟨ga, 0, none⟩) na ca ∧ vb = .slice (some ⟨gb, 0, none⟩) nb cb ∧ OwS wr w.heap.size ga na ca (digs x) ∧ OwS wr w.heap.size gb nb cb (digs y) ∧ ga ≠ gb ∧ Below w.heap.size w wr ∧ x < 4294967296 ^ N ∧ y < 4294967296 ^ N
theorem own_len {w : World} {B g n cap x N : Nat} (h : OwS w B g n cap (digs x)) (hx : x < 4294967296 ^ N) : n ≤ N := by rw [h.len]; exact length_digs_le hx
theorem own_pos {w : World} {B g n cap x : Nat} (h : OwS w B g n cap (digs x)) (hx : 0 < x) : 0 < n := by
  rw [h.len]; rcases Nat.eq_zero_or_pos (digs x).length with h1 | h1
  · have := digs_eq_nil.1 (List.eq_nil_of_length_eq_zero h1); omega
  · exact h1
theorem wd_digs0 (x : Nat) : wd (digs x) 0 = x % 4294967296 := by
  by_cases h : x = 0
  · subst h; rw [digs_zero]; rfl
  · rw [digs_pos h]; rfl
theorem own_head {w : World} {B g n cap x : Nat} (h : OwS w B g n cap (digs x)) (hx : 0 < x) : w.cell? ⟨g, 0, none⟩ = some (.int .u32 ((x % 4294967296 : Nat) : Int)) := by
  rw [← wd_digs0]; exact h.cell 0 (own_pos h hx)
theorem and_one (p : Nat) (hp : p < 4294967296) : Go.bits .and .u32 (p : Int) 1 = ((p % 2 : Nat) : Int) := by
  have := u32_and_nat p 1 hp (by decide)
  rw [Nat.and_one_is_mod] at this
  exact this
theorem even_u32 {p : Nat} (hp : p < 4294967296) (h : p % 2 = 0) : (Go.bits .and .u32 (p : Int) 1 == 0) = true := by rw [and_one p hp, h]; rfl
theorem odd_u32 {p : Nat} (hp : p < 4294967296) (h : p % 2 = 1) : (Go.bits .and .u32 (p : Int) 1 == 0) = false := by rw [and_one p hp, h]; rfl
theorem OwS.of_digs {w : World} {B g n cap v x : Nat} (h : OwS w B g n cap (digs (val (digs v) / x))) : OwS w B g n cap (digs (v / x)) := by rw [val_digs] at h; exact h
theorem Two.left {w wr w1 : World} {N ga na ca gb nb cb x y u k : Nat} (hT : Two w wr N (.slice (some ⟨ga, 0, none⟩) na ca) (.slice (some ⟨gb, 0, none⟩) nb cb) x y) (ho : OwS w1 w.heap.size ga k ca (digs u)) (hon : Only ga wr w1) (hu : u ≤ x) : Two w w1 N (.slice (some ⟨ga, 0, none⟩) k ca) (.slice (some ⟨gb, 0, none⟩) nb cb) u y := by
  obtain ⟨ga', na', ca', gb', nb', cb', e1, e2, oa, ob, hg, hbl, hxN, hyN⟩ := hT
  injection e1 with e1 e3 e4; injection e1 with e1; injection e1 with e1
  injection e2 with e2 e5 e6; injection e2 with e2; injection e2 with e2
  subst e1 e2 e3 e4 e5 e6
  exact ⟨ga, k, ca, gb, nb, cb, rfl, rfl, ho, hon.own ob (Ne.symm hg), hg, hbl.trans (hon.1.mono oa.base), Nat.lt_of_le_of_lt hu hxN, hyN⟩
theorem Two.swap {w wr : World} {N : Nat} {va vb : Value} {x y : Nat} (hT : Two w wr N va vb x y) : Two w wr N vb va y x := by
  obtain ⟨ga, na, ca, gb, nb, cb, e1, e2, oa, ob, hg, hbl, hxN, hyN⟩ := hT
  exact ⟨gb, nb, cb, ga, na, ca, e2, e1, ob, oa, Ne.symm hg, hbl, hyN, hxN⟩
theorem own_val {w : World} {B g n cap x : Nat} (h : OwS w B g n cap (digs x)) : valOf w (.slice (some ⟨g, 0, none⟩) n cap) = x := by rw [h.toWd.valOf, val_digs]
theorem Two.at_ {w wr : World} {N ga na ca gb nb cb x y : Nat} (hT : Two w wr N (.slice (some ⟨ga, 0, none⟩) na ca) (.slice (some ⟨gb, 0, none⟩) nb cb) x y) : OwS wr w.heap.size ga na ca (digs x) ∧ OwS wr w.heap.size gb nb cb (digs y) ∧ ga ≠ gb ∧ Below w.heap.size w wr ∧ x < 4294967296 ^ N ∧ y < 4294967296 ^ N := by
  obtain ⟨ga', na', ca', gb', nb', cb', e1, e2, h⟩ := hT
  injection e1 with e1 e3 e4; injection e1 with e1; injection e1 with e1
  injection e2 with e2 e5 e6; injection e2 with e2; injection e2 with e2
  subst e1 e2 e3 e4 e5 e6
  exact h
theorem OwS.belw {w w' : World} {B g n cap : Nat} {l : List Nat} (h : OwS w B g n cap l) (hb : Below w.heap.size w w') : OwS w' B g n cap l := by
  refine ⟨⟨h.1.1, ?_⟩, h.2⟩
  rcases h.1.2 with ⟨e, _⟩ | ⟨g', cap', cur, e, hb1, hgg, r⟩
  · cases e
  · exact .inr ⟨g', cap', cur, e, hb1, (hb.block g' (lt_of_block hgg)).trans hgg, r⟩
theorem Two.belw {w wr w1 : World} {N : Nat} {va vb : Value} {x y : Nat} (hT : Two w wr N va vb x y) (hb : Below wr.heap.size wr w1) : Two w w1 N va vb x y := by
  obtain ⟨ga, na, ca, gb, nb, cb, e1, e2, oa, ob, hg, hbl, hxN, hyN⟩ := hT
  exact ⟨ga, na, ca, gb, nb, cb, e1, e2, oa.belw hb, ob.belw hb, hg, hbl.trans (hb.mono hbl.size), hxN, hyN⟩
theorem digs_len_mono {a b : Nat} (h : a ≤ b) : (digs a).length ≤ (digs b).length := length_digs_le (Nat.lt_of_le_of_lt h (by have := val_lt (wds_digs b); rwa [val_digs] at this))
theorem Two.form {w wr : World} {N : Nat} {va vb : Value} {x y : Nat} (hT : Two w wr N va vb x y) : ∃ ga na ca gb nb cb, va = .slice (some ⟨ga, 0, none⟩) na ca ∧ vb = .slice (some ⟨gb, 0, none⟩) nb cb := by
  obtain ⟨ga, na, ca, gb, nb, cb, e1, e2, _⟩ := hT
  exact ⟨ga, na, ca, gb, nb, cb, e1, e2⟩
theorem two_bound {t x x0 N : Nat} (h : x0 = 2 ^ t * x) (hx : 0 < x) (hN : x0 < 4294967296 ^ N) : t < 32 * N := by
  have h1 : 2 ^ t ≤ x0 := by rw [h]; exact Nat.le_mul_of_pos_right _ hx
  have h2 : (4294967296 : Nat) ^ N = 2 ^ (32 * N) := by rw [Nat.pow_mul]
  rw [h2] at hN
  exact (Nat.pow_lt_pow_iff_right (by omega)).1 (Nat.lt_of_le_of_lt h1 hN)
theorem gcd_odd {x y : Nat} (h : ¬ (x % 2 = 0 ∧ y % 2 = 0)) : Nat.gcd x y % 2 = 1 := by
  rcases Nat.mod_two_eq_zero_or_one (Nat.gcd x y) with h1 | h1
  · exfalso
    have h2 : 2 ∣ Nat.gcd x y := Nat.dvd_of_mod_eq_zero h1
    exact h ⟨Nat.mod_eq_zero_of_dvd (Nat.dvd_trans h2 (Nat.gcd_dvd_left x y)), Nat.mod_eq_zero_of_dvd (Nat.dvd_trans h2 (Nat.gcd_dvd_right x y))⟩
  · exact h1
theorem gcd_half {u v G : Nat} (h : Nat.gcd u v = G) (hG : G % 2 = 1) (hu : u % 2 = 0) : Nat.gcd (u / 2) v = G := by
  have hv : v % 2 = 1 := by
    rcases Nat.mod_two_eq_zero_or_one v with h1 | h1
    · exfalso
      have h2 : 2 ∣ Nat.gcd u v := Nat.dvd_gcd (Nat.dvd_of_mod_eq_zero hu) (Nat.dvd_of_mod_eq_zero h1)
      rw [h] at h2
      have := Nat.mod_eq_zero_of_dvd h2
      omega
    · exact h1
  rw [gcd_left_even hu hv]; exact h
set_option maxRecDepth 100000 in
set_option maxHeartbeats 4000000 in
/-- linkworkref01.gcd, of numbers that are not 0 -/
theorem r_gcd_c (w : World) (N : Nat) (hN : N ≤ 1099511627000) (A : Option Addr) (n c : Nat) (l : List Nat) (wa : Wd w A n c l) (hn : n ≤ N) (A' : Option Addr) (n' c' : Nat) (l' : List Nat) (wb : Wd w A' n' c' l') (hn' : n' ≤ N) (h0 : val l ≠ 0) (h0' : val l' ≠ 0) :
    Calls Tryz.prog 82 #[.slice A n c, .slice A' n' c'] w (RetL w (digs (Nat.gcd (val l) (val l')))) := by
  have hvl := wa.vlt hn
  have hvl' := wb.vlt hn'
  obtain ⟨x0, hx0⟩ : ∃ x, val l = x := ⟨_, rfl⟩
  obtain ⟨y0, hy0⟩ : ∃ y, val l' = y := ⟨_, rfl⟩
  rw [hx0] at hvl h0
  rw [hy0] at hvl' h0'
  rw [hx0, hy0]
  have HX0 := Lib.hid hx0
  have HY0 := Lib.hid hy0
  have HVX := Lib.hid hvl
  have HVY := Lib.hid hvl'
  have hxp : 0 < x0 := by omega
  have hyp : 0 < y0 := by omega
  clear hx0 hy0 hvl hvl' h0 h0'
  go_enter Tryz.func82, Tryz.ntmps82
  go_wp2_with fail
  (with_reducible refine (r_trim_o _ A n c l ?_ ?_).mono ?_); (exact wa); (omega); rintro e w1 ⟨ga, na, ca, rfl, h1, hb1⟩
  rw [HX0.out] at h1
  go_wp2_with fail
  (with_reducible refine (r_trim_o _ A' n' c' l' ?_ ?_).mono ?_); (exact wb.belw hb1); (omega); rintro e w2 ⟨gb, nb, cb, rfl, h2, hb2⟩
  rw [HY0.out] at h2
  have hg : ga ≠ gb := by have := h1.lt; have := h2.base; omega
  have h1' : OwS w2 w.heap.size ga na ca (digs x0) := by
    refine ⟨⟨h1.1.1, ?_⟩, h1.2⟩
    rcases h1.1.2 with ⟨e, _⟩ | ⟨g', cap', cur, e, hb, hgg, r⟩
    · cases e
    · exact .inr ⟨g', cap', cur, e, hb, (hb2.block g' (lt_of_block hgg)).trans hgg, r⟩
  have h2' : OwS w2 w.heap.size gb nb cb (digs y0) := by
    refine ⟨⟨h2.1.1, ?_⟩, h2.2⟩
    rcases h2.1.2 with ⟨e, _⟩ | ⟨g', cap', cur, e, hb, r⟩
    · cases e
    · exact .inr ⟨g', cap', cur, e, Nat.le_trans hb1.size hb, r⟩
  have HT := Lib.hid (show Two w w2 N (.slice (some ⟨ga, 0, none⟩) na ca) (.slice (some ⟨gb, 0, none⟩) nb cb) x0 y0 from ⟨ga, na, ca, gb, nb, cb, rfl, rfl, h1', h2', hg, hb1.trans (hb2.mono hb1.size), HVX.out, HVY.out⟩)
  have ea : ((na : Int) == 0) = false := by have := own_pos h1 hxp; simp; omega
  have eb : ((nb : Int) == 0) = false := by have := own_pos h2 hyp; simp; omega
  clear h1 h2 h1' h2' hb1 hb2 hg
  go_wp2_with fail
  go_loopw [0, 1, 5] (fun va vb tv wr => ∃ (x y t : Nat), Two w wr N va vb x y ∧ tv = .int .i64 (t : Nat) ∧ 0 < x ∧ 0 < y ∧ x0 = 2 ^ t * x ∧ y0 = 2 ^ t * y) (fun va _ _ wr => valOf wr va)
  case atStart => exact ⟨x0, y0, 0, HT.out, rfl, hxp, hyp, by simp, by simp⟩
  case round =>
    obtain ⟨x, y, t, hT, rfl, hx, hy, hex, hey⟩ := hrel
    obtain ⟨ga, na, ca, gb, nb, cb, rfl, rfl⟩ := hT.form
    have HT := Lib.hid hT
    have hca := own_head hT.at_.1 hx
    have hcb := own_head hT.at_.2.1 hy
    have hna := own_pos hT.at_.1 hx
    have hnb := own_pos hT.at_.2.1 hy
    have hnaN := own_len hT.at_.1 hT.at_.2.2.2.2.1
    have hnbN := own_len hT.at_.2.1 hT.at_.2.2.2.2.2
    obtain ⟨p, hp⟩ : ∃ p, x % 4294967296 = p := ⟨_, rfl⟩
    obtain ⟨q, hq⟩ : ∃ q, y % 4294967296 = q := ⟨_, rfl⟩
    rw [hp] at hca
    rw [hq] at hcb
    have hp1 : p < 4294967296 := by omega
    have hq1 : q < 4294967296 := by omega
    have hpx : x % 2 = p % 2 := by omega
    have hqy : y % 2 = q % 2 := by omega
    have ht : t < 32 * N := two_bound hex hx HVX.out
    have HE := Lib.hid (And.intro hex hey)
    have HP := Lib.hid (And.intro hpx hqy)
    clear hex hey hp hq hpx hqy hT
    by_cases hpe : p % 2 = 0 ∧ q % 2 = 0
    · have ea := even_u32 hp1 hpe.1
      have eb := even_u32 hq1 hpe.2
      have HPE := Lib.hid hpe
      clear hpe
      go_wp2_with fail
      (with_reducible refine (r_halve_o _ w.heap.size ga na ca (digs x) ?_ ?_).mono ?_); (exact HT.out.at_.1); (omega); rintro e w1 ⟨k1, rfl, o1, hon1⟩
      have HT1 := Lib.hid (HT.out.left o1.of_digs hon1 (Nat.div_le_self _ _))
      clear o1 hon1 hca hcb
      go_wp2_with fail
      (with_reducible refine (r_halve_o _ w.heap.size gb nb cb (digs y) ?_ ?_).mono ?_); (exact HT1.out.at_.2.1); (omega); rintro e w2 ⟨k2, rfl, o2, hon2⟩
      have HT2 := Lib.hid (HT1.out.swap.left o2.of_digs hon2 (Nat.div_le_self _ _)).swap
      clear o2 hon2
      go_wp2_with fail
      go_roundw
      case rel =>
        have h1 : x = 2 * (x / 2) := by have := HP.out.1; have := HPE.out.1; omega
        have h2 : y = 2 * (y / 2) := by have := HP.out.2; have := HPE.out.2; omega
        exact ⟨x / 2, y / 2, t + 1, HT2.out, by go_num, by omega, by omega, by rw [HE.out.1, Nat.pow_succ, Nat.mul_assoc, ← h1], by rw [HE.out.2, Nat.pow_succ, Nat.mul_assoc, ← h2]⟩
      case measure =>
        rw [own_val HT2.out.at_.1, own_val HT.out.at_.1]
        omega
    · have hGo : Nat.gcd x y % 2 = 1 := gcd_odd (by intro h; exact hpe ⟨by have := HP.out.1; omega, by have := HP.out.2; omega⟩)
      obtain ⟨G, hG⟩ : ∃ G, Nat.gcd x y = G := ⟨_, rfl⟩
      rw [hG] at hGo
      have HG := Lib.hid (And.intro hG hGo)
      have hGp : 0 < G := by omega
      clear hG hGo
      rcases (show p % 2 = 1 ∨ (p % 2 = 0 ∧ q % 2 = 1) by omega) with h1 | ⟨h1, h2⟩
      · have ea := odd_u32 hp1 h1
        clear hpe h1
        go_wp2_with fail
        clear ea
        try clear eb
        have e5 : 0 < nb := hnb
        clear hca hcb hp1 hq1 hna hnb hnaN hnbN
        go_loopw [0, 1] (fun va vb wr => ∃ (u v : Nat), Two w wr N va vb u v ∧ 0 < v ∧ Nat.gcd u v = G) (fun va vb wr => valOf wr va + valOf wr vb)
        case atStart => exact ⟨x, y, HT.out, hy, HG.out.1⟩
        case round =>
          rename_i wr2
          obtain ⟨u, v, hT2, hv, hgu⟩ := hrel
          obtain ⟨ga2, na2, ca2, gb2, nb2, cb2, rfl, rfl⟩ := hT2.form
          have HT2 := Lib.hid hT2
          have HGU := Lib.hid hgu
          clear hT2 hgu
          by_cases hu : u = 0
          · subst hu
            have e0 : na2 = 0 := by rw [HT2.out.at_.1.len, digs_zero]; rfl
            subst e0
            have HVG := Lib.hid (show v = G by have := HGU.out; simpa using this)
            go_wp2_with fail
            go_loopw [1, 65] (fun vb iv wr => ∃ (j : Nat) (B : Option Addr) (m cc : Nat), vb = .slice B m cc ∧ Wd wr B m cc (digs (2 ^ j * G)) ∧ m ≤ N ∧ iv = .int .i64 (j : Nat) ∧ j ≤ t ∧ Below w.heap.size w wr) (fun _ iv _ => t - (intOf iv).toNat)
            case atStart =>
              have := HVG.out
              subst this
              exact ⟨0, _, _, _, rfl, by simpa using HT2.out.at_.2.1.toWd, own_len HT2.out.at_.2.1 HT2.out.at_.2.2.2.2.2, rfl, Nat.zero_le _, HT2.out.at_.2.2.2.1⟩
            case round =>
              obtain ⟨j, B, m, cc, rfl, hw, hm, rfl, hj, hbl⟩ := hrel
              have HW := Lib.hid hw
              have HB := Lib.hid hbl
              clear hw hbl
              by_cases hlt : j < t
              · go_wp2_with fail
                (with_reducible refine (r_plus_c _ B m cc (digs (2 ^ j * G)) ?_ ?_ B m cc (digs (2 ^ j * G)) ?_ ?_).mono ?_); (exact HW.out); (omega); (exact HW.out); (omega); rintro e w4 ⟨B', m', cc', rfl, h4, hb4⟩
                have hz : val (digs (2 ^ j * G)) + val (digs (2 ^ j * G)) = 2 ^ (j + 1) * G := by rw [val_digs, Nat.pow_succ]; grind
                rw [hz] at h4
                have HZ := Lib.hid hz
                have H4 := Lib.hid h4
                clear hz h4
                go_wp2_with fail
                go_roundw
                case rel =>
                  refine ⟨j + 1, B', m', cc', rfl, H4.out, ?_, by go_num, by omega, HB.out.trans (hb4.mono HB.out.size)⟩
                  rw [H4.out.2.1]
                  refine length_digs_le (Nat.lt_of_le_of_lt ?_ HVX.out)
                  rw [HE.out.1]
                  refine Nat.le_trans (Nat.mul_le_mul_right G (Nat.pow_le_pow_right (by omega) (show j + 1 ≤ t by omega))) (Nat.mul_le_mul_left _ ?_)
                  rw [← HG.out.1]; exact Nat.gcd_le_left _ hx
                case measure => simp [intOf]; omega
              · have hjt : j = t := by omega
                subst hjt
                go_wp2
                go_ret
                refine ⟨B, m, cc, rfl, ?_, HB.out⟩
                rw [HE.out.1, HE.out.2, Nat.gcd_mul_left, HG.out.1]
                exact HW.out
          · have hup : 0 < u := by omega
            have hnap := own_pos HT2.out.at_.1 hup
            go_wp2_with fail
            go_loopw [0] (fun va wr => ∃ (u' : Nat), Two w wr N va (.slice (some ⟨gb2, 0, none⟩) nb2 cb2) u' v ∧ 0 < u' ∧ Nat.gcd u' v = G ∧ u' ≤ u) (fun va wr => valOf wr va)
            case atStart => exact ⟨u, HT2.out, hup, HGU.out, Nat.le_refl _⟩
            case round =>
              rename_i wr3
              obtain ⟨u', hT3, hu', hgu3, hle3⟩ := hrel
              obtain ⟨ga3, na3, ca3, _, _, _, rfl, _⟩ := hT3.form
              have HT3 := Lib.hid hT3
              have HGU3 := Lib.hid hgu3
              have hc3 := own_head hT3.at_.1 hu'
              have hn3 := own_pos hT3.at_.1 hu'
              have hn3N := own_len hT3.at_.1 hT3.at_.2.2.2.2.1
              obtain ⟨p3, hp3⟩ : ∃ p, u' % 4294967296 = p := ⟨_, rfl⟩
              rw [hp3] at hc3
              have hp31 : p3 < 4294967296 := by omega
              have hpu : u' % 2 = p3 % 2 := by omega
              clear hT3 hgu3 hp3
              by_cases hpe3 : p3 % 2 = 0
              · have ea3 := even_u32 hp31 hpe3
                have HU2 := Lib.hid (show u' % 2 = 0 by omega)
                clear hpe3 hpu
                go_wp2_with fail
                (with_reducible refine (r_halve_o _ w.heap.size ga3 na3 ca3 (digs u') ?_ ?_).mono ?_); (exact HT3.out.at_.1); (omega); rintro e w4 ⟨k4, rfl, o4, hon4⟩
                have HT4 := Lib.hid (HT3.out.left o4.of_digs hon4 (Nat.div_le_self _ _))
                clear o4 hon4 hc3
                go_wp2_with fail
                go_roundw
                case rel =>
                  have := HU2.out
                  exact ⟨u' / 2, HT4.out, by omega, gcd_half HGU3.out HG.out.2 this, by omega⟩
                case measure =>
                  rw [own_val HT4.out.at_.1, own_val HT3.out.at_.1]
                  have := HU2.out
                  omega
              · have ea3 := odd_u32 hp31 (show p3 % 2 = 1 by omega)
                clear hpe3 hpu
                go_wp2_with fail
                clear ea3 hc3
                go_loopw [1] (fun vb wr => ∃ (v' : Nat), Two w wr N (.slice (some ⟨ga3, 0, none⟩) na3 ca3) vb u' v' ∧ 0 < v' ∧ Nat.gcd u' v' = G ∧ v' ≤ v) (fun vb wr => valOf wr vb)
                case atStart => exact ⟨v, HT3.out, hv, HGU3.out, Nat.le_refl _⟩
                case round =>
                  rename_i wr5
                  obtain ⟨v', hT5, hv', hgu5, hle5⟩ := hrel
                  obtain ⟨_, _, _, gb5, nb5, cb5, _, rfl⟩ := hT5.form
                  have HT5 := Lib.hid hT5
                  have HGU5 := Lib.hid hgu5
                  have hc5 := own_head hT5.at_.2.1 hv'
                  have hn5 := own_pos hT5.at_.2.1 hv'
                  have hn5N := own_len hT5.at_.2.1 hT5.at_.2.2.2.2.2
                  obtain ⟨p5, hp5⟩ : ∃ p, v' % 4294967296 = p := ⟨_, rfl⟩
                  rw [hp5] at hc5
                  have hp51 : p5 < 4294967296 := by omega
                  have hpv : v' % 2 = p5 % 2 := by omega
                  clear hT5 hgu5 hp5
                  by_cases hpe5 : p5 % 2 = 0
                  · have ea5 := even_u32 hp51 hpe5
                    have HU2 := Lib.hid (show v' % 2 = 0 by omega)
                    clear hpe5 hpv
                    go_wp2_with fail
                    (with_reducible refine (r_halve_o _ w.heap.size gb5 nb5 cb5 (digs v') ?_ ?_).mono ?_); (exact HT5.out.at_.2.1); (omega); rintro e w6 ⟨k6, rfl, o6, hon6⟩
                    have HT6 := Lib.hid (HT5.out.swap.left o6.of_digs hon6 (Nat.div_le_self _ _)).swap
                    clear o6 hon6 hc5
                    go_wp2_with fail
                    go_roundw
                    case rel =>
                      have := HU2.out
                      exact ⟨v' / 2, HT6.out, by omega, by rw [Nat.gcd_comm]; exact gcd_half (by rw [Nat.gcd_comm]; exact HGU5.out) HG.out.2 this, by omega⟩
                    case measure =>
                      rw [own_val HT6.out.at_.2.1, own_val HT5.out.at_.2.1]
                      have := HU2.out
                      omega
                  · have ea5 := odd_u32 hp51 (show p5 % 2 = 1 by omega)
                    clear hpe5 hpv
                    go_wp2_with fail
                    clear ea5 hc5
                    (with_reducible refine (r_compare_c _ (some ⟨ga3, 0, none⟩) na3 ca3 (digs u') ?_ ?_ (some ⟨gb5, 0, none⟩) nb5 cb5 (digs v') ?_ ?_).mono ?_); (exact HT5.out.at_.1.toWd); (omega); (exact HT5.out.at_.2.1.toWd); (omega); rintro e w6 ⟨rfl, hb6⟩
                    have HT6 := Lib.hid (HT5.out.belw hb6)
                    clear hb6
                    rw [val_digs, val_digs]
                    by_cases hlt : u' < v'
                    · rw [show cmpN u' v' = -1 by unfold cmpN; rw [if_pos hlt]]
                      have HLE := Lib.hid (Nat.le_of_lt hlt)
                      clear hlt
                      go_wp2_with fail
                      (with_reducible refine (r_take_o _ w.heap.size gb5 nb5 cb5 (digs v') ?_ ?_ (some ⟨ga3, 0, none⟩) na3 ca3 (digs u') ?_ ?_ ?_ ?_).mono ?_); (exact HT6.out.at_.2.1); (omega); (exact HT6.out.at_.1.toWd); (intro ad e; injection e with e; subst e; exact HT6.out.at_.2.2.1); (rw [HT6.out.at_.2.1.len, HT6.out.at_.1.len]; exact digs_len_mono HLE.out); (rw [val_digs, val_digs]; exact HLE.out); rintro e w7 ⟨L, rfl, o7, hv7, hon7⟩
                      rw [val_digs, val_digs] at hv7
                      have HV7 := Lib.hid hv7
                      have HO7 := Lib.hid o7
                      have HON7 := Lib.hid hon7
                      clear hv7 o7 hon7
                      go_wp2_with fail
                      (with_reducible refine (r_cut_o _ w.heap.size gb5 nb5 cb5 L ?_ ?_).mono ?_); (exact HO7.out); (omega); rintro e w8 ⟨k8, rfl, o8, rfl⟩
                      rw [HV7.out] at o8
                      have HT8 := Lib.hid (HT6.out.swap.left o8 HON7.out (Nat.sub_le _ _))
                      clear o8
                      go_wp2_with fail
                      go_roundw
                      case rel => exact ⟨v' - u', u', HT8.out, hu', by rw [gcd_sub HLE.out]; rw [Nat.gcd_comm]; exact HGU5.out⟩
                      case measure =>
                        rw [own_val HT8.out.at_.1, own_val HT8.out.at_.2.1, own_val HT2.out.at_.1, own_val HT2.out.at_.2.1]
                        have := HLE.out
                        omega

                    · have hcn : decide (cmpN u' v' < 0) = false := by unfold cmpN; rw [if_neg hlt]; split <;> decide
                      have HLE := Lib.hid (Nat.le_of_not_lt hlt)
                      obtain ⟨cm, hcm⟩ : ∃ cm, cmpN u' v' = cm := ⟨_, rfl⟩
                      rw [hcm] at hcn ⊢
                      clear hlt hcm
                      go_wp2_with fail
                      (with_reducible refine (r_take_o _ w.heap.size ga3 na3 ca3 (digs u') ?_ ?_ (some ⟨gb5, 0, none⟩) nb5 cb5 (digs v') ?_ ?_ ?_ ?_).mono ?_); (exact HT6.out.at_.1); (omega); (exact HT6.out.at_.2.1.toWd); (intro ad e; injection e with e; subst e; exact Ne.symm HT6.out.at_.2.2.1); (rw [HT6.out.at_.1.len, HT6.out.at_.2.1.len]; exact digs_len_mono HLE.out); (rw [val_digs, val_digs]; exact HLE.out); rintro e w7 ⟨L, rfl, o7, hv7, hon7⟩
                      rw [val_digs, val_digs] at hv7
                      have HV7 := Lib.hid hv7
                      have HO7 := Lib.hid o7
                      have HON7 := Lib.hid hon7
                      clear hv7 o7 hon7
                      go_wp2_with fail
                      (with_reducible refine (r_cut_o _ w.heap.size ga3 na3 ca3 L ?_ ?_).mono ?_); (exact HO7.out); (omega); rintro e w8 ⟨k8, rfl, o8, rfl⟩
                      rw [HV7.out] at o8
                      have HT8 := Lib.hid (HT6.out.left o8 HON7.out (Nat.sub_le _ _))
                      clear o8
                      go_wp2_with fail
                      go_roundw
                      case rel => exact ⟨u' - v', v', HT8.out, hv', by rw [gcd_sub HLE.out]; exact HGU5.out⟩
                      case measure =>
                        rw [own_val HT8.out.at_.1, own_val HT8.out.at_.2.1, own_val HT2.out.at_.1, own_val HT2.out.at_.2.1]
                        have := HLE.out
                        omega


      · have ea := even_u32 hp1 h1
        have eb := odd_u32 hq1 h2
        clear h2
        clear hpe h1
        go_wp2_with fail
        clear ea
        try clear eb
        have e5 : 0 < nb := hnb
        clear hca hcb hp1 hq1 hna hnb hnaN hnbN
        go_loopw [0, 1] (fun va vb wr => ∃ (u v : Nat), Two w wr N va vb u v ∧ 0 < v ∧ Nat.gcd u v = G) (fun va vb wr => valOf wr va + valOf wr vb)
        case atStart => exact ⟨x, y, HT.out, hy, HG.out.1⟩
        case round =>
          rename_i wr2
          obtain ⟨u, v, hT2, hv, hgu⟩ := hrel
          obtain ⟨ga2, na2, ca2, gb2, nb2, cb2, rfl, rfl⟩ := hT2.form
          have HT2 := Lib.hid hT2
          have HGU := Lib.hid hgu
          clear hT2 hgu
          by_cases hu : u = 0
          · subst hu
            have e0 : na2 = 0 := by rw [HT2.out.at_.1.len, digs_zero]; rfl
            subst e0
            have HVG := Lib.hid (show v = G by have := HGU.out; simpa using this)
            go_wp2_with fail
            go_loopw [1, 65] (fun vb iv wr => ∃ (j : Nat) (B : Option Addr) (m cc : Nat), vb = .slice B m cc ∧ Wd wr B m cc (digs (2 ^ j * G)) ∧ m ≤ N ∧ iv = .int .i64 (j : Nat) ∧ j ≤ t ∧ Below w.heap.size w wr) (fun _ iv _ => t - (intOf iv).toNat)
            case atStart =>
              have := HVG.out
              subst this
              exact ⟨0, _, _, _, rfl, by simpa using HT2.out.at_.2.1.toWd, own_len HT2.out.at_.2.1 HT2.out.at_.2.2.2.2.2, rfl, Nat.zero_le _, HT2.out.at_.2.2.2.1⟩
            case round =>
              obtain ⟨j, B, m, cc, rfl, hw, hm, rfl, hj, hbl⟩ := hrel
              have HW := Lib.hid hw
              have HB := Lib.hid hbl
              clear hw hbl
              by_cases hlt : j < t
              · go_wp2_with fail
                (with_reducible refine (r_plus_c _ B m cc (digs (2 ^ j * G)) ?_ ?_ B m cc (digs (2 ^ j * G)) ?_ ?_).mono ?_); (exact HW.out); (omega); (exact HW.out); (omega); rintro e w4 ⟨B', m', cc', rfl, h4, hb4⟩
                have hz : val (digs (2 ^ j * G)) + val (digs (2 ^ j * G)) = 2 ^ (j + 1) * G := by rw [val_digs, Nat.pow_succ]; grind
                rw [hz] at h4
                have HZ := Lib.hid hz
                have H4 := Lib.hid h4
                clear hz h4
                go_wp2_with fail
                go_roundw
                case rel =>
                  refine ⟨j + 1, B', m', cc', rfl, H4.out, ?_, by go_num, by omega, HB.out.trans (hb4.mono HB.out.size)⟩
                  rw [H4.out.2.1]
                  refine length_digs_le (Nat.lt_of_le_of_lt ?_ HVX.out)
                  rw [HE.out.1]
                  refine Nat.le_trans (Nat.mul_le_mul_right G (Nat.pow_le_pow_right (by omega) (show j + 1 ≤ t by omega))) (Nat.mul_le_mul_left _ ?_)
                  rw [← HG.out.1]; exact Nat.gcd_le_left _ hx
                case measure => simp [intOf]; omega
              · have hjt : j = t := by omega
                subst hjt
                go_wp2
                go_ret
                refine ⟨B, m, cc, rfl, ?_, HB.out⟩
                rw [HE.out.1, HE.out.2, Nat.gcd_mul_left, HG.out.1]
                exact HW.out
          · have hup : 0 < u := by omega
            have hnap := own_pos HT2.out.at_.1 hup
            go_wp2_with fail
            go_loopw [0] (fun va wr => ∃ (u' : Nat), Two w wr N va (.slice (some ⟨gb2, 0, none⟩) nb2 cb2) u' v ∧ 0 < u' ∧ Nat.gcd u' v = G ∧ u' ≤ u) (fun va wr => valOf wr va)
            case atStart => exact ⟨u, HT2.out, hup, HGU.out, Nat.le_refl _⟩
            case round =>
              rename_i wr3
              obtain ⟨u', hT3, hu', hgu3, hle3⟩ := hrel
              obtain ⟨ga3, na3, ca3, _, _, _, rfl, _⟩ := hT3.form
              have HT3 := Lib.hid hT3
              have HGU3 := Lib.hid hgu3
              have hc3 := own_head hT3.at_.1 hu'
              have hn3 := own_pos hT3.at_.1 hu'
              have hn3N := own_len hT3.at_.1 hT3.at_.2.2.2.2.1
              obtain ⟨p3, hp3⟩ : ∃ p, u' % 4294967296 = p := ⟨_, rfl⟩
              rw [hp3] at hc3
              have hp31 : p3 < 4294967296 := by omega
              have hpu : u' % 2 = p3 % 2 := by omega
              clear hT3 hgu3 hp3
              by_cases hpe3 : p3 % 2 = 0
              · have ea3 := even_u32 hp31 hpe3
                have HU2 := Lib.hid (show u' % 2 = 0 by omega)
                clear hpe3 hpu
                go_wp2_with fail
                (with_reducible refine (r_halve_o _ w.heap.size ga3 na3 ca3 (digs u') ?_ ?_).mono ?_); (exact HT3.out.at_.1); (omega); rintro e w4 ⟨k4, rfl, o4, hon4⟩
                have HT4 := Lib.hid (HT3.out.left o4.of_digs hon4 (Nat.div_le_self _ _))
                clear o4 hon4 hc3
                go_wp2_with fail
                go_roundw
                case rel =>
                  have := HU2.out
                  exact ⟨u' / 2, HT4.out, by omega, gcd_half HGU3.out HG.out.2 this, by omega⟩
                case measure =>
                  rw [own_val HT4.out.at_.1, own_val HT3.out.at_.1]
                  have := HU2.out
                  omega
              · have ea3 := odd_u32 hp31 (show p3 % 2 = 1 by omega)
                clear hpe3 hpu
                go_wp2_with fail
                clear ea3 hc3
                go_loopw [1] (fun vb wr => ∃ (v' : Nat), Two w wr N (.slice (some ⟨ga3, 0, none⟩) na3 ca3) vb u' v' ∧ 0 < v' ∧ Nat.gcd u' v' = G ∧ v' ≤ v) (fun vb wr => valOf wr vb)
                case atStart => exact ⟨v, HT3.out, hv, HGU3.out, Nat.le_refl _⟩
                case round =>
                  rename_i wr5
                  obtain ⟨v', hT5, hv', hgu5, hle5⟩ := hrel
                  obtain ⟨_, _, _, gb5, nb5, cb5, _, rfl⟩ := hT5.form
                  have HT5 := Lib.hid hT5
                  have HGU5 := Lib.hid hgu5
                  have hc5 := own_head hT5.at_.2.1 hv'
                  have hn5 := own_pos hT5.at_.2.1 hv'
                  have hn5N := own_len hT5.at_.2.1 hT5.at_.2.2.2.2.2
                  obtain ⟨p5, hp5⟩ : ∃ p, v' % 4294967296 = p := ⟨_, rfl⟩
                  rw [hp5] at hc5
                  have hp51 : p5 < 4294967296 := by omega
                  have hpv : v' % 2 = p5 % 2 := by omega
                  clear hT5 hgu5 hp5
                  by_cases hpe5 : p5 % 2 = 0
                  · have ea5 := even_u32 hp51 hpe5
                    have HU2 := Lib.hid (show v' % 2 = 0 by omega)
                    clear hpe5 hpv
                    go_wp2_with fail
                    (with_reducible refine (r_halve_o _ w.heap.size gb5 nb5 cb5 (digs v') ?_ ?_).mono ?_); (exact HT5.out.at_.2.1); (omega); rintro e w6 ⟨k6, rfl, o6, hon6⟩
                    have HT6 := Lib.hid (HT5.out.swap.left o6.of_digs hon6 (Nat.div_le_self _ _)).swap
                    clear o6 hon6 hc5
                    go_wp2_with fail
                    go_roundw
                    case rel =>
                      have := HU2.out
                      exact ⟨v' / 2, HT6.out, by omega, by rw [Nat.gcd_comm]; exact gcd_half (by rw [Nat.gcd_comm]; exact HGU5.out) HG.out.2 this, by omega⟩
                    case measure =>
                      rw [own_val HT6.out.at_.2.1, own_val HT5.out.at_.2.1]
                      have := HU2.out
                      omega
                  · have ea5 := odd_u32 hp51 (show p5 % 2 = 1 by omega)
                    clear hpe5 hpv
                    go_wp2_with fail
                    clear ea5 hc5
                    (with_reducible refine (r_compare_c _ (some ⟨ga3, 0, none⟩) na3 ca3 (digs u') ?_ ?_ (some ⟨gb5, 0, none⟩) nb5 cb5 (digs v') ?_ ?_).mono ?_); (exact HT5.out.at_.1.toWd); (omega); (exact HT5.out.at_.2.1.toWd); (omega); rintro e w6 ⟨rfl, hb6⟩
                    have HT6 := Lib.hid (HT5.out.belw hb6)
                    clear hb6
                    rw [val_digs, val_digs]
                    by_cases hlt : u' < v'
                    · rw [show cmpN u' v' = -1 by unfold cmpN; rw [if_pos hlt]]
                      have HLE := Lib.hid (Nat.le_of_lt hlt)
                      clear hlt
                      go_wp2_with fail
                      (with_reducible refine (r_take_o _ w.heap.size gb5 nb5 cb5 (digs v') ?_ ?_ (some ⟨ga3, 0, none⟩) na3 ca3 (digs u') ?_ ?_ ?_ ?_).mono ?_); (exact HT6.out.at_.2.1); (omega); (exact HT6.out.at_.1.toWd); (intro ad e; injection e with e; subst e; exact HT6.out.at_.2.2.1); (rw [HT6.out.at_.2.1.len, HT6.out.at_.1.len]; exact digs_len_mono HLE.out); (rw [val_digs, val_digs]; exact HLE.out); rintro e w7 ⟨L, rfl, o7, hv7, hon7⟩
                      rw [val_digs, val_digs] at hv7
                      have HV7 := Lib.hid hv7
                      have HO7 := Lib.hid o7
                      have HON7 := Lib.hid hon7
                      clear hv7 o7 hon7
                      go_wp2_with fail
                      (with_reducible refine (r_cut_o _ w.heap.size gb5 nb5 cb5 L ?_ ?_).mono ?_); (exact HO7.out); (omega); rintro e w8 ⟨k8, rfl, o8, rfl⟩
                      rw [HV7.out] at o8
                      have HT8 := Lib.hid (HT6.out.swap.left o8 HON7.out (Nat.sub_le _ _))
                      clear o8
                      go_wp2_with fail
                      go_roundw
                      case rel => exact ⟨v' - u', u', HT8.out, hu', by rw [gcd_sub HLE.out]; rw [Nat.gcd_comm]; exact HGU5.out⟩
                      case measure =>
                        rw [own_val HT8.out.at_.1, own_val HT8.out.at_.2.1, own_val HT2.out.at_.1, own_val HT2.out.at_.2.1]
                        have := HLE.out
                        omega

                    · have hcn : decide (cmpN u' v' < 0) = false := by unfold cmpN; rw [if_neg hlt]; split <;> decide
                      have HLE := Lib.hid (Nat.le_of_not_lt hlt)
                      obtain ⟨cm, hcm⟩ : ∃ cm, cmpN u' v' = cm := ⟨_, rfl⟩
                      rw [hcm] at hcn ⊢
                      clear hlt hcm
                      go_wp2_with fail
                      (with_reducible refine (r_take_o _ w.heap.size ga3 na3 ca3 (digs u') ?_ ?_ (some ⟨gb5, 0, none⟩) nb5 cb5 (digs v') ?_ ?_ ?_ ?_).mono ?_); (exact HT6.out.at_.1); (omega); (exact HT6.out.at_.2.1.toWd); (intro ad e; injection e with e; subst e; exact Ne.symm HT6.out.at_.2.2.1); (rw [HT6.out.at_.1.len, HT6.out.at_.2.1.len]; exact digs_len_mono HLE.out); (rw [val_digs, val_digs]; exact HLE.out); rintro e w7 ⟨L, rfl, o7, hv7, hon7⟩
                      rw [val_digs, val_digs] at hv7
                      have HV7 := Lib.hid hv7
                      have HO7 := Lib.hid o7
                      have HON7 := Lib.hid hon7
                      clear hv7 o7 hon7
                      go_wp2_with fail
                      (with_reducible refine (r_cut_o _ w.heap.size ga3 na3 ca3 L ?_ ?_).mono ?_); (exact HO7.out); (omega); rintro e w8 ⟨k8, rfl, o8, rfl⟩
                      rw [HV7.out] at o8
                      have HT8 := Lib.hid (HT6.out.left o8 HON7.out (Nat.sub_le _ _))
                      clear o8
                      go_wp2_with fail
                      go_roundw
                      case rel => exact ⟨u' - v', v', HT8.out, hv', by rw [gcd_sub HLE.out]; exact HGU5.out⟩
                      case measure =>
                        rw [own_val HT8.out.at_.1, own_val HT8.out.at_.2.1, own_val HT2.out.at_.1, own_val HT2.out.at_.2.1]
                        have := HLE.out
                        omega


end Go.Proofs.YtmneloabphplmaaGreat

/- Walks: the reference's greatest common divisor, of any lists. -/
namespace Go.Proofs.YtmneloabphplmaaGreat
open Go Go.RowKit Bn
set_option maxRecDepth 100000 in
set_option maxHeartbeats 2000000 in
theorem r_gcd_z (w : World) (A : Option Addr) (n c : Nat) (l : List Nat) (wa : Wd w A n c l) (hn : n ≤ 1099511627000) (A' : Option Addr) (n' c' : Nat) (l' : List Nat) (wb : Wd w A' n' c' l') (hn' : n' ≤ 1099511627000) (h0 : val l = 0 ∨ val l' = 0) :
    Calls Tryz.prog 82 #[.slice A n c, .slice A' n' c'] w (RetL w (digs (Nat.gcd (val l) (val l')))) := by
  have H0 := Lib.hid h0
  clear h0
  go_enter Tryz.func82, Tryz.ntmps82
  go_wp2_with fail
  (with_reducible refine (r_trim_o _ A n c l ?_ ?_).mono ?_); (exact wa); (omega); rintro e w1 ⟨ga, na, ca, rfl, h1, hb1⟩
  go_wp2_with fail
  (with_reducible refine (r_trim_o _ A' n' c' l' ?_ ?_).mono ?_); (exact wb.belw hb1); (omega); rintro e w2 ⟨gb, nb, cb, rfl, h2, hb2⟩
  have HB := Lib.hid (hb1.trans (hb2.mono hb1.size))
  have H1 := Lib.hid (h1.belw hb2)
  have H2 := Lib.hid h2
  have hna := h1.len
  have hnb := h2.len
  clear h1 h2 hb1 hb2
  by_cases hz : val l = 0
  · have e : na = 0 := by rw [hna, hz, digs_zero]; rfl
    have HG := Lib.hid (show digs (Nat.gcd (val l) (val l')) = digs (val l') by rw [hz, Nat.gcd_zero_left])
    subst e
    clear hna hnb hz
    go_wp2_with fail
    go_ret
    exact ⟨_, _, _, rfl, by rw [HG.out]; exact H2.out.toWd, HB.out⟩
  · have hz2 : val l' = 0 := H0.out.resolve_left hz
    have e : nb = 0 := by rw [hnb, hz2, digs_zero]; rfl
    have hp : 0 < na := by
      rw [hna]; rcases Nat.eq_zero_or_pos (digs (val l)).length with h | h
      · exact absurd (digs_eq_nil.1 (List.eq_nil_of_length_eq_zero h)) hz
      · exact h
    have e1 : ((na : Int) == 0) = false := by simp; omega
    have HG := Lib.hid (show digs (Nat.gcd (val l) (val l')) = digs (val l) by rw [hz2, Nat.gcd_zero_right])
    subst e
    clear hna hnb hz hz2
    go_wp2_with fail
    go_ret
    exact ⟨_, _, _, rfl, by rw [HG.out]; exact H1.out.toWd, HB.out⟩
theorem r_gcd_any (w : World) (A : Option Addr) (n c : Nat) (l : List Nat) (wa : Wd w A n c l) (hn : n ≤ 1099511627000) (A' : Option Addr) (n' c' : Nat) (l' : List Nat) (wb : Wd w A' n' c' l') (hn' : n' ≤ 1099511627000) :
    Calls Tryz.prog 82 #[.slice A n c, .slice A' n' c'] w (RetL w (digs (Nat.gcd (val l) (val l')))) := by
  by_cases h : val l = 0
  · exact r_gcd_z w A n c l wa hn A' n' c' l' wb hn' (.inl h)
  · by_cases h' : val l' = 0
    · exact r_gcd_z w A n c l wa hn A' n' c' l' wb hn' (.inr h')
    · exact r_gcd_c w 1099511627000 (Nat.le_refl _) A n c l wa hn A' n' c' l' wb hn' h h'
end Go.Proofs.YtmneloabphplmaaGreat

/- Walks: the reference's Gcd. -/
namespace Go.Proofs.YtmneloabphplmaaGreat
open Go Go.RowKit Bn
attribute [local go_sem ↓] Go.wp_at_zero Go.wp_at_succ
theorem gcd_len {w w' : World} {A : Option Addr} {n c : Nat} {l : List Nat} {A' : Option Addr} {n' c' : Nat} {l' : List Nat} {N : Nat} (h : Wd w A n c l) (h' : Wd w' A' n' c' l') (hn : n ≤ N) (hn' : n' ≤ N) : (digs (Nat.gcd (val l) (val l'))).length ≤ N := length_digs_le (gcd_lt (h.vlt hn) (h'.vlt hn'))
set_option maxHeartbeats 2000000 in
/-- linkworkref01.Gcd -/
theorem r_Gcd_C (w : World) (b : Bool) (A : Option Addr) (n c : Nat) (l : List Nat) (wa : Wd w A n c l) (hn : n ≤ 1099511627000) (b' : Bool) (A' : Option Addr) (n' c' : Nat) (l' : List Nat) (wb : Wd w A' n' c' l') (hn' : n' ≤ 1099511627000) :
    Calls Tryz.prog 58 #[.agg #[.bool b, .slice A n c], .agg #[.bool b', .slice A' n' c']] w (RetW w (wh (Nat.gcd (WD.z ⟨b, l⟩).natAbs (WD.z ⟨b', l'⟩).natAbs : Nat))) := by
  have HL := Lib.hid wa.2.1
  have HL' := Lib.hid wb.2.1
  rw [z_nat, z_nat]
  go_enter Tryz.func58, Tryz.ntmps58
  go_wp2_with fail
  have b0 : Below w.heap.size w (((w.alloc (.cells #[.bool b, .slice A n c] 77)).alloc (.cells #[.bool b', .slice A' n' c'] 77)).alloc (.cells #[.bool false, .slice none 0 0] 77)) := ((((Below.refl _ _).alloc (Nat.le_refl _) _).alloc (by simp) _).alloc (by simp; omega) _)
  generalize hW0 : (((w.alloc (.cells #[.bool b, .slice A n c] 77)).alloc (.cells #[.bool b', .slice A' n' c'] 77)).alloc (.cells #[.bool false, .slice none 0 0] 77)) = W0 at b0 ⊢
  have c00 : W0.cell? ⟨w.heap.size, 0, none⟩ = some (.bool b) := by subst hW0; simp [go_sem]
  have f00 : W0.frozen? ⟨w.heap.size, 0, none⟩ = false := by subst hW0; simp [go_sem]
  have c01 : W0.cell? ⟨w.heap.size, 1, none⟩ = some (.slice A n c) := by subst hW0; simp [go_sem]
  have f01 : W0.frozen? ⟨w.heap.size, 1, none⟩ = false := by subst hW0; simp [go_sem]
  have c10 : W0.cell? ⟨w.heap.size + 1, 0, none⟩ = some (.bool b') := by subst hW0; simp [go_sem]
  have f10 : W0.frozen? ⟨w.heap.size + 1, 0, none⟩ = false := by subst hW0; simp [go_sem]
  have c11 : W0.cell? ⟨w.heap.size + 1, 1, none⟩ = some (.slice A' n' c') := by subst hW0; simp [go_sem]
  have f11 : W0.frozen? ⟨w.heap.size + 1, 1, none⟩ = false := by subst hW0; simp [go_sem]
  have c20 : W0.cell? ⟨w.heap.size + 1 + 1, 0, none⟩ = some (.bool false) := by subst hW0; simp [go_sem]
  have f20 : W0.frozen? ⟨w.heap.size + 1 + 1, 0, none⟩ = false := by subst hW0; simp [go_sem]
  have c21 : W0.cell? ⟨w.heap.size + 1 + 1, 1, none⟩ = some (.slice none 0 0) := by subst hW0; simp [go_sem]
  have f21 : W0.frozen? ⟨w.heap.size + 1 + 1, 1, none⟩ = false := by subst hW0; simp [go_sem]
  have x0 : Box W0 (w.heap.size) 77 := by subst hW0; exact ((boxAt _ _ _ (by simp)).alloc _).alloc _
  have x1 : Box W0 (w.heap.size + 1) 77 := by subst hW0; exact (boxAt _ _ _ (by simp)).alloc _
  have x2 : Box W0 (w.heap.size + 1 + 1) 77 := by subst hW0; exact boxAt _ _ _ (by simp)
  have hm0 : Made (w.heap.size + 1 + 1) (w.heap.size + 1 + 1 + 1) 2 W0 := by subst hW0; exact made1 (by simp)
  have hs0 : w.heap.size + 1 + 1 + 1 ≤ W0.heap.size := by subst hW0; simp
  clear hW0
  have wa := wa.belw b0
  have wb := wb.belw b0
  have r0 : Below W0.heap.size W0 W0 := brefl _
  have hRB : w.heap.size + 1 + 1 ≤ w.heap.size + 1 + 1 + 1 := by omega
  go_region_held3 (fun w' => Sees (w.heap.size + 1 + 1) W0 w') (first | exact Sees.of (Nat.le_trans hRB hs0) (by assumption) | exact Sees.of (Nat.le_trans hRB hs0) (below_drewN (by assumption) _) | exact (Sees.set (Sees.of (Nat.le_trans hRB hs0) (by assumption)) (by simp)) | exact (Sees.set (Sees.set (Sees.of (Nat.le_trans hRB hs0) (by assumption)) (by simp)) (by simp)))
    (first
      | (go_at_call 83; (with_reducible refine (r_mag_c _ b A n c l ?_ ?_).mono ?_); (exact wa); (omega); rintro e w1 ⟨A1, n1, c1, rfl, h1, hb1⟩; replace hb1 := bnext (below_drewN (brefl _) 1) hb1; have r1 := bnext r0 hb1; replace wa := wa.belw hb1; replace wb := wb.belw hb1)
      | (go_at_call 83; (with_reducible refine (r_mag_c _ b' A' n' c' l' ?_ ?_).mono ?_); (exact wb); (omega); rintro e w2 ⟨A2, n2, c2, rfl, h2, hb2⟩; have r2 := bnext r1 hb2; replace wa := wa.belw hb2; replace wb := wb.belw hb2; replace h1 := h1.belw hb2)
      | (go_at_call 82; (with_reducible refine (r_gcd_any _ A1 n1 c1 (WD.m ⟨b, l⟩) ?_ ?_ A2 n2 c2 (WD.m ⟨b', l'⟩) ?_ ?_).mono ?_); (exact h1); (exact h1.m_len (by rw [← HL.out]; exact hn)); (exact h2); (exact h2.m_len (by rw [← HL'.out]; exact hn')); rintro e w3 ⟨A3, n3, c3, rfl, h3, hb3⟩; have r3 := bnext r2 hb3; replace wa := wa.belw hb3; replace wb := wb.belw hb3; replace h1 := h1.belw hb3; replace h2 := h2.belw hb3)
      | (go_at_call 81; (with_reducible refine (r_form_e _ false A3 n3 c3 (digs (Nat.gcd (val (WD.m ⟨b, l⟩)) (val (WD.m ⟨b', l'⟩)))) (Nat.gcd (val (WD.m ⟨b, l⟩)) (val (WD.m ⟨b', l'⟩)) : Nat) ?_ ?_ ?_).mono ?_); (exact h3); (rw [h3.2.1]; exact gcd_len h1 h2 (Nat.le_trans (h1.m_len (by rw [← HL.out]; exact hn)) (by decide)) (Nat.le_trans (h2.m_len (by rw [← HL'.out]; exact hn')) (by decide))); (rw [val_digs]; rfl); rintro e w4 ⟨A4, n4, c4, rfl, h4, hb4⟩; have r4 := bnext r3 hb4; replace wa := wa.belw hb4; replace wb := wb.belw hb4; replace h1 := h1.belw hb4; replace h2 := h2.belw hb4; replace h3 := h3.belw hb4; obtain ⟨⟨sc, sf⟩, sr, sz⟩ := Seen.of (by omega) hs0 hm0 r4))
  clear hRB
  go_wp2_with fail
  refine bodyPost_ret (v := .agg #[.bool _, .slice A4 n4 c4]) (by simp [results, Tryz.results58, go_sem, sr]; rfl) rfl ?_
  have x := x2.below r4
  refine retW ?_ ?_ ?_
  · rfl
  · exact h4.keep (kp2 x (by decide) _ _ _ _)
  · exact ((b0.trans (r4.mono b0.size)).setCell (by dsimp only; omega) _).setCell (by dsimp only; omega) _
theorem r01_gcd (w : World) (b : Bool) (A : Option Addr) (n c : Nat) (z : Int) (k : Nat) (h : IZ w b A n c z k) (b' : Bool) (A' : Option Addr) (n' c' : Nat) (z' : Int) (k' : Nat) (h' : IZ w b' A' n' c' z' k') (hk : k + k' ≤ 1000000000) : Calls Tryz.prog 58 #[.agg #[.bool b, .slice A n c], .agg #[.bool b', .slice A' n' c']] w (RetI w (Nat.gcd z.natAbs z'.natAbs : Nat) (k + k')) := by
  have hz := h.mono (Nat.le_add_right k k') |>.lt
  have hz' := h'.mono (Nat.le_add_left k' k) |>.lt
  obtain ⟨l, h1, rfl, h3⟩ := h
  obtain ⟨l', h1', rfl, h3'⟩ := h'
  exact (r_Gcd_C w b A n c l h1 (by omega) b' A' n' c' l' h1' (by omega)).mono fun _ _ r => r.i (by simpa using gcd_lt hz hz')
end Go.Proofs.YtmneloabphplmaaGreat
