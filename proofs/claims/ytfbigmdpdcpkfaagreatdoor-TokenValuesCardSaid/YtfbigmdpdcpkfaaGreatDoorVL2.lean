/- TokenValues: Name and Value return what the reference does, or the errors; for every input the law returns true. The listed library variables are tied to the program text. -/
import Derived.Deep.RegionHeld3
import Derived.Deep.DrawnRows
import Derived.ChangeMaps5
import Derived.Test.YtfbigmdpdcpkfaaGreatDoorVL1
set_option linter.unusedVariables false
set_option maxHeartbeats 8000000
set_option maxRecDepth 100000
/- Walks: tokens: Value of the reference. -/
namespace Go.Proofs.YtfbigmdpdcpkfaaGreatDoor
open Go Go.RowKit Bn
attribute [local go_sem ↓] Go.wp_at_zero Go.wp_at_succ
def VQe (ev : Value) (q : Rat) (k : Nat) : Value → World → Prop := fun v w => ∃ b A n c D m e, v = .tuple #[.agg #[.bool b, .slice A n c, .slice D m e], ev] ∧ QV w b A n c D m e q k
theorem stQe (ev : Value) (q : Rat) (k : Nat) : Stab (VQe ev q k) := fun _ _ _ ⟨b, A, n, c, D, m, e, h0, h⟩ hk => ⟨b, A, n, c, D, m, e, h0, h.keep hk⟩
theorem div_ten (N : Int) (j : Nat) : Rat.divInt N ((10 ^ j : Nat) : Int) / ((10 : Int) : Rat) = Rat.divInt N ((10 ^ (j + 1) : Nat) : Int) := by
  rw [Rat.divInt_eq_div, Rat.divInt_eq_div, Nat.pow_succ, Int.natCast_mul, Rat.intCast_mul, Rat.div_def, Rat.div_def, Rat.div_def, Rat.inv_mul_rev, Rat.mul_assoc]
  congr 1
  exact Rat.mul_comm _ _
theorem div_one (N : Int) : ((N : Int) : Rat) = Rat.divInt N ((10 ^ 0 : Nat) : Int) := (int_q N).symm
def tenQ (N j : Nat) : Rat := Rat.divInt ((N : Nat) : Int) ((10 ^ j : Nat) : Int)
theorem neg_div (N : Int) (d : Int) : -(Rat.divInt N d) = Rat.divInt (-N) d := by rw [Rat.neg_divInt]
theorem atB_sg (m : Bool) {D r : List UInt8} (h : isD D) : ((((atB (sg m (D ++ r)) 0).toNat : Nat) : Int) == 45) = m := by
  obtain ⟨c, t, rfl, hc⟩ := isD_head h
  cases m
  · refine (byte_eq c 45).trans ?_
    have h45 : c ≠ 45 := by rintro rfl; exact absurd hc (by decide)
    simpa using h45
  · rfl
theorem atB_mid (D r : List UInt8) (c : UInt8) : atB (D ++ c :: r) D.length = c := by
  unfold atB
  rw [List.getD_eq_getElem?_getD, List.getElem?_append_right (Nat.le_refl _)]
  simp
theorem atB_end (D : List UInt8) : atB D D.length = 0 := atB_ge (Nat.le_refl _)
theorem r_value_large (w : World) (s : List UInt8) (h : 60 < s.length) : Calls Tryz.prog 17 #[strV s] w (RetFe w (.int .i64 4) 0 1) := by
 have hszs := size_v s
 have hlen : ((60 : Int) < (s.length : Int)) = True := eq_true (by omega)
 go_enter Tryz.func17, Tryz.ntmps17
 go_wp2_with fail
 refine bodyPost_ret (v := .tuple #[.agg #[.bool false, .slice none 0 0, .slice none 0 0], .int .i64 4]) (by simp [results, Tryz.results17, go_sem, *] <;> first | rfl | exact ⟨rfl, rfl⟩) rfl ?_
 exact ⟨_, _, _, _, _, _, _, rfl, QV.zero _ _, ((brefl w).alloc (by first | omega | (simp <;> omega)) (.cells #[.bool false, .slice none 0 0, .slice none 0 0] 39))⟩
theorem r_value_bad (w : World) (s : List UInt8) (h : s.length ≤ 60) (hb : s.length = 0 ∨ numN s ≠ s.length) : Calls Tryz.prog 17 #[strV s] w (RetFe w (.int .i64 2) 0 1) := by
 have hszs := size_v s
 have hlen : ((60 : Int) < (s.length : Int)) = False := eq_false (by omega)
 obtain ⟨n, hn⟩ : ∃ n, numN s = n := ⟨_, rfl⟩
 rw [hn] at hb
 by_cases h0 : s.length = 0
 ·have hz : (((s.length : Nat) : Int) == 0) = true := by simp [h0]
  have hz2 : (((s.length : Nat) : Int) = 0) = True := eq_true (by omega)
  clear hb hn h0
  go_enter Tryz.func17, Tryz.ntmps17
  go_wp2_with fail
  refine bodyPost_ret (v := .tuple #[.agg #[.bool false, .slice none 0 0, .slice none 0 0], .int .i64 2]) (by simp [results, Tryz.results17, go_sem, *] <;> first | rfl | exact ⟨rfl, rfl⟩) rfl ?_
  exact ⟨_, _, _, _, _, _, _, rfl, QV.zero _ _, ((brefl w).alloc (by first | omega | (simp <;> omega)) (.cells #[.bool false, .slice none 0 0, .slice none 0 0] 39))⟩
 ·have e0 : ((s.length : Int) == 0) = false := beq_eq_false_iff_ne.2 (by omega)
  have e00 : ((s.length : Int) = 0) = False := eq_false (by omega)
  have e1 : ((n : Int) == (s.length : Int)) = false := beq_eq_false_iff_ne.2 (by omega)
  have hsl : s.length < 4611686018427387904 := by omega
  clear hb h0
  go_enter Tryz.func17, Tryz.ntmps17
  go_wp2_with fail
  (with_reducible refine (r_numberEnd _ (s) (0) 0 rfl (Nat.zero_le _) hsl (n : Nat) (by rw [List.drop_zero, Nat.zero_add, hn])).mono ?_); rintro e w1 ⟨rfl, hb1⟩
  have q1 := ((Below.refl _ _).alloc (Nat.le_refl _) _).trans (hb1.mono (by simp))
  have x1a : Blk w1 w.heap.size 39 #[.bool false, .slice none 0 0, .slice none 0 0] := (blkAt _ _ _ (by simp)).below hb1 (by simp)
  have bw1 := (brefl w).trans (q1.mono (brefl w).size)
  have lw1 : w.heap.size + 1 ≤ w1.heap.size := by have := hb1.size; simp at this; omega
  clear q1
  obtain ⟨cx1aa, cx1ab, cx1ac⟩ := x1a.c3
  obtain ⟨fx1aa, fx1ab, fx1ac⟩ := x1a.f3
  obtain ⟨lx1aa, lx1ab, lx1ac, lx1ad⟩ := lts0 x1a.lt
  go_wp2_with fail
  refine bodyPost_ret (v := .tuple #[.agg #[.bool false, .slice none 0 0, .slice none 0 0], .int .i64 2]) (by simp [results, Tryz.results17, go_sem, *] <;> first | rfl | exact ⟨rfl, rfl⟩) rfl ?_
  exact ⟨_, _, _, _, _, _, _, rfl, QV.zero _ _, (((bw1.sc w.heap.size 0 (by omega) (.bool false)).sc w.heap.size 1 (by omega) (.slice none 0 0)).sc w.heap.size 2 (by omega) (.slice none 0 0))⟩
theorem r_value_whole_f (w : World) (s D : List UInt8) (h : s.length ≤ 60) (hn : numN s = s.length) (hD : isD D) (hs : s = sg false D) : Calls Tryz.prog 17 #[strV s] w (RetFe w (.int .i64 0) (((sgI false (decVal D) : Int)) : Rat) 500) := by
 have hszs := size_v s
 have hlen : ((60 : Int) < (s.length : Int)) = False := eq_false (by omega)
 have he45 := atB_sg false (r := []) hD
 rw [List.append_nil] at he45
 rw [← hs] at he45
 obtain ⟨B, hB⟩ : ∃ B : List UInt8, D = B := ⟨_, rfl⟩
 have hBl : B.length = D.length + 0 := by rw [← hB]; rfl
 have hDl : 0 < D.length := List.length_pos_iff.2 hD.1
 have hdg : digN B = D.length := by rw [← hB]; have := digN_front (r := []) hD.2 (by simp); rwa [List.append_nil] at this
 have hat : atB B D.length = 0 := by rw [← hB]; exact atB_end D
 have e2 : (⟨B.toArray⟩ : ByteArray).extract 0 D.length = ⟨D.toArray⟩ := by rw [ext_v, List.drop_zero, Nat.sub_zero, ← hB]; simp
 rw [hB] at hs
 have hszB := size_v B
 replace hs : s = B := hs
 subst hs
 obtain ⟨c0, hc0⟩ : ∃ c, atB s 0 = c := ⟨_, rfl⟩
 have hlt0 : 0 < s.length := by omega
 have hget : ∀ h, (⟨s.toArray⟩ : ByteArray)[0]'h = c0 := fun h => by rw [← hc0]; exact (atB_lt hlt0).symm
 rw [hc0] at he45
 have hn0 : ((s.length : Int) == 0) = false := beq_eq_false_iff_ne.2 (by omega)
 have hn00 : ((s.length : Int) = 0) = False := eq_false (by omega)
 have hsl : s.length < 4611686018427387904 := by omega
 have hDB : (D.length : Int) ≤ (s.length : Int) := by omega
 have hD0 : (0 : Int) ≤ (D.length : Int) := by omega
 have hDl6 : D.length ≤ 60 := by omega
 obtain ⟨zn, hzn⟩ : ∃ zn : Nat, decVal D = zn := ⟨_, rfl⟩
 rw [hzn]
 have HZN := Lib.hid hzn
 have HD := Lib.hid hD.2
 have HDG := Lib.hid hdg
 have HAT := Lib.hid hat
 have HN := Lib.hid hn
 clear hn hD hB hdg hat hc0 hzn
 have hBl1 : s.length ≤ D.length + 0 := by omega
 have hBl2 : D.length + 0 ≤ s.length := by omega
 have hS1 : s.length ≤ s.length + 0 := by omega
 clear hBl
 go_enter Tryz.func17, Tryz.ntmps17
 go_wp2_with fail
 (with_reducible refine (r_numberEnd _ (s) (0) 0 rfl (Nat.zero_le _) hsl (s.length : Nat) (by rw [List.drop_zero, Nat.zero_add, HN.out])).mono ?_); rintro e w1 ⟨rfl, hb1⟩
 have q1 := ((Below.refl _ _).alloc (Nat.le_refl _) _).trans (hb1.mono (by simp))
 have x1a : Blk w1 w.heap.size 39 #[.bool false, .slice none 0 0, .slice none 0 0] := (blkAt _ _ _ (by simp)).below hb1 (by simp)
 have bw1 := (brefl w).trans (q1.mono (brefl w).size)
 have lw1 : w.heap.size + 1 ≤ w1.heap.size := by have := hb1.size; simp at this; omega
 clear q1
 go_wp2_with fail
 (with_reducible refine (r_digitsEnd_x _ (s) (0) 0 rfl (Nat.zero_le _) hsl (D.length : Nat) (by rw [List.drop_zero, Nat.zero_add, HDG.out])).mono ?_); rintro e w2 ⟨rfl, q2⟩
 replace x1a := x1a.b q2
 have bw2 := bw1.trans (q2.mono bw1.size)
 have lw2 := q2.size
 clear q2 bw1
 go_wp2_with fail
 (with_reducible refine (r_whole _ (D) HD.out hDl6).mono ?_); rintro e w3 ⟨b3, A3, n3, c3, A'3, n'3, c'3, rfl, h3, q3⟩
 replace x1a := x1a.b q3
 have bw3 := bw2.trans (q3.mono bw2.size)
 have lw3 := q3.size
 clear q3 bw2
 go_wp2_with fail
 (with_reducible refine (r_at_x _ (s) ((D.length : Nat)) D.length rfl 0 HAT.out).mono ?_); rintro e w4 ⟨rfl, hb4⟩
 have q4 := ((Below.refl _ _).alloc (Nat.le_refl _) _).trans (hb4.mono (by simp))
 replace h3 := h3.belw q4
 replace x1a := x1a.b q4
 have x4a : Blk w4 w3.heap.size 39 #[.bool b3, .slice A3 n3 c3, .slice A'3 n'3 c'3] := (blkAt _ _ _ (by simp)).below hb4 (by simp)
 have bw4 := bw3.trans (q4.mono bw3.size)
 have lw4 : w3.heap.size + 1 ≤ w4.heap.size := by have := hb4.size; simp at this; omega
 clear q4 bw3
 go_wp2_with fail
 (with_reducible refine (r_at_x _ (s) ((D.length : Nat)) D.length rfl 0 HAT.out).mono ?_); rintro e w5 ⟨rfl, q5⟩
 replace h3 := h3.belw q5
 replace x1a := x1a.b q5
 replace x4a := x4a.b q5
 have bw5 := bw4.trans (q5.mono bw4.size)
 have lw5 := q5.size
 clear q5 bw4
 obtain ⟨cx1aa, cx1ab, cx1ac⟩ := x1a.c3
 obtain ⟨fx1aa, fx1ab, fx1ac⟩ := x1a.f3
 obtain ⟨lx1aa, lx1ab, lx1ac, lx1ad⟩ := lts0 x1a.lt
 obtain ⟨cx4aa, cx4ab, cx4ac⟩ := x4a.c3
 obtain ⟨lx4aa, lx4ab, lx4ac, lx4ad⟩ := lts0 x4a.lt
 go_wp2_with fail
 refine bodyPost_ret (v := .tuple #[.agg #[.bool b3, .slice A3 n3 c3, .slice A'3 n'3 c'3], .int .i64 0]) (by simp [results, Tryz.results17, go_sem, *] <;> first | rfl | exact ⟨rfl, rfl⟩) rfl ?_
 have hval : (((decVal D : Nat) : Int) : Rat) = ((sgI false ((zn : Nat) : Int) : Int) : Rat) := by rw [HZN.out]; rfl
 exact ⟨_, _, _, _, _, _, _, rfl, by rw [← hval]; exact ((h3).keep ((((Kp.refl w5).sb w.heap.size 0 x1a.box (by decide) (.bool b3)).sb w.heap.size 1 (x1a.box.set ⟨w.heap.size, 0, none⟩ (.bool b3)) (by decide) (.slice A3 n3 c3)).sb w.heap.size 2 ((x1a.box.set ⟨w.heap.size, 0, none⟩ (.bool b3)).set ⟨w.heap.size, 1, none⟩ (.slice A3 n3 c3)) (by decide) (.slice A'3 n'3 c'3))).mono (by omega), (((bw5.sc w.heap.size 0 (by omega) (.bool b3)).sc w.heap.size 1 (by omega) (.slice A3 n3 c3)).sc w.heap.size 2 (by omega) (.slice A'3 n'3 c'3))⟩
theorem r_value_whole_t (w : World) (s D : List UInt8) (h : s.length ≤ 60) (hn : numN s = s.length) (hD : isD D) (hs : s = sg true D) : Calls Tryz.prog 17 #[strV s] w (RetFe w (.int .i64 0) (((sgI true (decVal D) : Int)) : Rat) 500) := by
 have hszs := size_v s
 have hlen : ((60 : Int) < (s.length : Int)) = False := eq_false (by omega)
 have he45 := atB_sg true (r := []) hD
 rw [List.append_nil] at he45
 rw [← hs] at he45
 obtain ⟨B, hB⟩ : ∃ B : List UInt8, D = B := ⟨_, rfl⟩
 have hBl : B.length = D.length + 0 := by rw [← hB]; rfl
 have hDl : 0 < D.length := List.length_pos_iff.2 hD.1
 have hdg : digN B = D.length := by rw [← hB]; have := digN_front (r := []) hD.2 (by simp); rwa [List.append_nil] at this
 have hat : atB B D.length = 0 := by rw [← hB]; exact atB_end D
 have e2 : (⟨B.toArray⟩ : ByteArray).extract 0 D.length = ⟨D.toArray⟩ := by rw [ext_v, List.drop_zero, Nat.sub_zero, ← hB]; simp
 rw [hB] at hs
 have hszB := size_v B
 have hsl1 : s.length = B.length + 1 := by rw [hs]; rfl
 obtain ⟨c0, hc0⟩ : ∃ c, atB s 0 = c := ⟨_, rfl⟩
 have hlt0 : 0 < s.length := by omega
 have hget : ∀ h, (⟨s.toArray⟩ : ByteArray)[0]'h = c0 := fun h => by rw [← hc0]; exact (atB_lt hlt0).symm
 rw [hc0] at he45
 have hn0 : ((s.length : Int) == 0) = false := beq_eq_false_iff_ne.2 (by omega)
 have hn00 : ((s.length : Int) = 0) = False := eq_false (by omega)
 have hsl : s.length < 4611686018427387904 := by omega
 have hBsl : B.length < 4611686018427387904 := by omega
 have hDB : (D.length : Int) ≤ (B.length : Int) := by omega
 have hD0 : (0 : Int) ≤ (D.length : Int) := by omega
 have e1 : (⟨s.toArray⟩ : ByteArray).extract 1 s.length = ⟨B.toArray⟩ := by
  rw [ext_v, hs]; simp [sg]
 have hs1 : (1 : Int) ≤ (s.length : Int) := by omega
 have hDl6 : D.length ≤ 60 := by omega
 obtain ⟨zn, hzn⟩ : ∃ zn : Nat, decVal D = zn := ⟨_, rfl⟩
 rw [hzn]
 have HZN := Lib.hid hzn
 have HD := Lib.hid hD.2
 have HDG := Lib.hid hdg
 have HAT := Lib.hid hat
 have HN := Lib.hid hn
 clear hn hD hB hdg hat hc0 hzn hs
 have hBl1 : B.length ≤ D.length + 0 := by omega
 have hBl2 : D.length + 0 ≤ B.length := by omega
 have hS1 : s.length ≤ B.length + 1 := by omega
 clear hBl hsl1
 go_enter Tryz.func17, Tryz.ntmps17
 go_wp2_with fail
 (with_reducible refine (r_numberEnd _ (s) (0) 0 rfl (Nat.zero_le _) hsl (s.length : Nat) (by rw [List.drop_zero, Nat.zero_add, HN.out])).mono ?_); rintro e w1 ⟨rfl, hb1⟩
 have q1 := ((Below.refl _ _).alloc (Nat.le_refl _) _).trans (hb1.mono (by simp))
 have x1a : Blk w1 w.heap.size 39 #[.bool false, .slice none 0 0, .slice none 0 0] := (blkAt _ _ _ (by simp)).below hb1 (by simp)
 have bw1 := (brefl w).trans (q1.mono (brefl w).size)
 have lw1 : w.heap.size + 1 ≤ w1.heap.size := by have := hb1.size; simp at this; omega
 clear q1
 go_wp2_with fail
 (with_reducible refine (r_digitsEnd_x _ (B) (0) 0 rfl (Nat.zero_le _) hBsl (D.length : Nat) (by rw [List.drop_zero, Nat.zero_add, HDG.out])).mono ?_); rintro e w2 ⟨rfl, q2⟩
 replace x1a := x1a.b q2
 have bw2 := bw1.trans (q2.mono bw1.size)
 have lw2 := q2.size
 clear q2 bw1
 go_wp2_with fail
 (with_reducible refine (r_whole _ (D) HD.out hDl6).mono ?_); rintro e w3 ⟨b3, A3, n3, c3, A'3, n'3, c'3, rfl, h3, q3⟩
 replace x1a := x1a.b q3
 have bw3 := bw2.trans (q3.mono bw2.size)
 have lw3 := q3.size
 clear q3 bw2
 go_wp2_with fail
 (with_reducible refine (r_at_x _ (B) ((D.length : Nat)) D.length rfl 0 HAT.out).mono ?_); rintro e w4 ⟨rfl, hb4⟩
 have q4 := ((Below.refl _ _).alloc (Nat.le_refl _) _).trans (hb4.mono (by simp))
 replace h3 := h3.belw q4
 replace x1a := x1a.b q4
 have x4a : Blk w4 w3.heap.size 39 #[.bool b3, .slice A3 n3 c3, .slice A'3 n'3 c'3] := (blkAt _ _ _ (by simp)).below hb4 (by simp)
 have bw4 := bw3.trans (q4.mono bw3.size)
 have lw4 : w3.heap.size + 1 ≤ w4.heap.size := by have := hb4.size; simp at this; omega
 clear q4 bw3
 go_wp2_with fail
 (with_reducible refine (r_at_x _ (B) ((D.length : Nat)) D.length rfl 0 HAT.out).mono ?_); rintro e w5 ⟨rfl, q5⟩
 replace h3 := h3.belw q5
 replace x1a := x1a.b q5
 replace x4a := x4a.b q5
 have bw5 := bw4.trans (q5.mono bw4.size)
 have lw5 := q5.size
 clear q5 bw4
 obtain ⟨cx4aa, cx4ab, cx4ac⟩ := x4a.c3
 obtain ⟨lx4aa, lx4ab, lx4ac, lx4ad⟩ := lts0 x4a.lt
 go_wp2_with fail
 (with_reducible refine (g_neg _ b3 A3 n3 c3 A'3 n'3 c'3 ((((decVal D : Nat) : Int) : Rat)) (181) ?_ ?_ ?_).mono ?_); (exact h3.qz); (first | omega | decide | assumption); (first | omega | decide | assumption); rintro e w6 ⟨b6, A6, n6, c6, A'6, n'6, c'6, rfl, h6, q6⟩
 clear cx4aa cx4ab cx4ac lx4aa lx4ab lx4ac lx4ad
 replace h3 := h3.belw q6
 replace x1a := x1a.b q6
 replace x4a := x4a.b q6
 have bw6 := bw5.trans (q6.mono bw5.size)
 have lw6 := q6.size
 clear q6 bw5
 obtain ⟨cx1aa, cx1ab, cx1ac⟩ := x1a.c3
 obtain ⟨fx1aa, fx1ab, fx1ac⟩ := x1a.f3
 obtain ⟨lx1aa, lx1ab, lx1ac, lx1ad⟩ := lts0 x1a.lt
 obtain ⟨cx4aa, cx4ab, cx4ac⟩ := x4a.c3
 obtain ⟨fx4aa, fx4ab, fx4ac⟩ := x4a.f3
 obtain ⟨lx4aa, lx4ab, lx4ac, lx4ad⟩ := lts0 x4a.lt
 go_wp2_with fail
 refine bodyPost_ret (v := .tuple #[.agg #[.bool b6, .slice A6 n6 c6, .slice A'6 n'6 c'6], .int .i64 0]) (by simp [results, Tryz.results17, go_sem, *] <;> first | rfl | exact ⟨rfl, rfl⟩) rfl ?_
 have hval : -(((((decVal D : Nat) : Int) : Rat))) = ((sgI true ((zn : Nat) : Int) : Int) : Rat) := by rw [HZN.out]; exact (Rat.intCast_neg _).symm
 exact ⟨_, _, _, _, _, _, _, rfl, by rw [← hval]; exact ((h6).keep (((((((Kp.refl w6).sb w3.heap.size 0 x4a.box (by decide) (.bool b6)).sb w3.heap.size 1 (x4a.box.set ⟨w3.heap.size, 0, none⟩ (.bool b6)) (by decide) (.slice A6 n6 c6)).sb w3.heap.size 2 ((x4a.box.set ⟨w3.heap.size, 0, none⟩ (.bool b6)).set ⟨w3.heap.size, 1, none⟩ (.slice A6 n6 c6)) (by decide) (.slice A'6 n'6 c'6)).sb w.heap.size 0 (((x1a.box.set ⟨w3.heap.size, 0, none⟩ (.bool b6)).set ⟨w3.heap.size, 1, none⟩ (.slice A6 n6 c6)).set ⟨w3.heap.size, 2, none⟩ (.slice A'6 n'6 c'6)) (by decide) (.bool b6)).sb w.heap.size 1 ((((x1a.box.set ⟨w3.heap.size, 0, none⟩ (.bool b6)).set ⟨w3.heap.size, 1, none⟩ (.slice A6 n6 c6)).set ⟨w3.heap.size, 2, none⟩ (.slice A'6 n'6 c'6)).set ⟨w.heap.size, 0, none⟩ (.bool b6)) (by decide) (.slice A6 n6 c6)).sb w.heap.size 2 (((((x1a.box.set ⟨w3.heap.size, 0, none⟩ (.bool b6)).set ⟨w3.heap.size, 1, none⟩ (.slice A6 n6 c6)).set ⟨w3.heap.size, 2, none⟩ (.slice A'6 n'6 c'6)).set ⟨w.heap.size, 0, none⟩ (.bool b6)).set ⟨w.heap.size, 1, none⟩ (.slice A6 n6 c6)) (by decide) (.slice A'6 n'6 c'6))).mono (by omega), ((((((bw6.sc w3.heap.size 0 (by omega) (.bool b6)).sc w3.heap.size 1 (by omega) (.slice A6 n6 c6)).sc w3.heap.size 2 (by omega) (.slice A'6 n'6 c'6)).sc w.heap.size 0 (by omega) (.bool b6)).sc w.heap.size 1 (by omega) (.slice A6 n6 c6)).sc w.heap.size 2 (by omega) (.slice A'6 n'6 c'6))⟩
theorem r_value_quo0_f (w : World) (s D E : List UInt8) (h : s.length ≤ 60) (hn : numN s = s.length) (hD : isD D) (hE : isD E) (hs : s = sg false (D ++ 47 :: E)) (h0 : decVal E = 0) : Calls Tryz.prog 17 #[strV s] w (RetFe w (.int .i64 8) 0 1) := by
 have hszs := size_v s
 have hlen : ((60 : Int) < (s.length : Int)) = False := eq_false (by omega)
 have he45 := atB_sg false (r := (47 :: E)) hD
 skip
 rw [← hs] at he45
 obtain ⟨B, hB⟩ : ∃ B : List UInt8, (D ++ 47 :: E) = B := ⟨_, rfl⟩
 have hBl : B.length = D.length + (1 + E.length) := by rw [← hB]; simp only [List.length_append, List.length_cons]; omega
 have hDl : 0 < D.length := List.length_pos_iff.2 hD.1
 have hdg : digN B = D.length := by rw [← hB]; exact digN_front hD.2 (fun c t e => by injection e with e _; rw [← e]; rfl)
 have hat : atB B D.length = 47 := by rw [← hB]; exact atB_mid D E 47
 have e2 : (⟨B.toArray⟩ : ByteArray).extract 0 D.length = ⟨D.toArray⟩ := by rw [ext_v, List.drop_zero, Nat.sub_zero, ← hB]; simp
 rw [hB] at hs
 have hszB := size_v B
 have hEl : 0 < E.length := List.length_pos_iff.2 hE.1
 replace hs : s = B := hs
 subst hs
 obtain ⟨c0, hc0⟩ : ∃ c, atB s 0 = c := ⟨_, rfl⟩
 have hlt0 : 0 < s.length := by omega
 have hget : ∀ h, (⟨s.toArray⟩ : ByteArray)[0]'h = c0 := fun h => by rw [← hc0]; exact (atB_lt hlt0).symm
 rw [hc0] at he45
 have hn0 : ((s.length : Int) == 0) = false := beq_eq_false_iff_ne.2 (by omega)
 have hn00 : ((s.length : Int) = 0) = False := eq_false (by omega)
 have hsl : s.length < 4611686018427387904 := by omega
 have hDB : (D.length : Int) ≤ (s.length : Int) := by omega
 have hD0 : (0 : Int) ≤ (D.length : Int) := by omega
 have hw1 : IntKind.i64.wrap ((D.length : Int) + 1) = (D.length : Int) + 1 := IntWalk.i64_in _ ⟨by omega, by omega⟩
 have ht1 : ((D.length : Int) + 1).toNat = D.length + 1 := by omega
 have hD1 : (D.length : Int) + 1 ≤ (s.length : Int) := by omega
 have hD2 : (0 : Int) ≤ (D.length : Int) + 1 := by omega
 have e3 : (⟨s.toArray⟩ : ByteArray).extract (D.length + 1) s.length = ⟨E.toArray⟩ := by
  rw [ext_v, ← hB]; simp; exact List.take_of_length_le (by omega)
 have hDl6 : D.length ≤ 60 := by omega
 have hEl6 : E.length ≤ 60 := by omega
 obtain ⟨zn, hzn⟩ : ∃ zn : Nat, decVal D = zn := ⟨_, rfl⟩
 obtain ⟨zd, hzd⟩ : ∃ zd : Nat, decVal E = zd := ⟨_, rfl⟩
 rw [hzd] at h0
 have HS0 : Hid ((((zd : Int) : Rat)).num.sign = 0) := Lib.hid (by rw [h0]; rfl)
 have HZN := Lib.hid hzn
 have HZD := Lib.hid hzd
 have HD := Lib.hid hD.2
 have HE := Lib.hid hE.2
 have HDG := Lib.hid hdg
 have HAT := Lib.hid hat
 have HN := Lib.hid hn
 clear hn hD hB hdg hat hc0 hzn hE hzd h0
 have hBl1 : s.length ≤ D.length + (1 + E.length) := by omega
 have hBl2 : D.length + (1 + E.length) ≤ s.length := by omega
 have hS1 : s.length ≤ s.length + 0 := by omega
 clear hBl
 go_enter Tryz.func17, Tryz.ntmps17
 go_wp2_with fail
 (with_reducible refine (r_numberEnd _ (s) (0) 0 rfl (Nat.zero_le _) hsl (s.length : Nat) (by rw [List.drop_zero, Nat.zero_add, HN.out])).mono ?_); rintro e w1 ⟨rfl, hb1⟩
 have q1 := ((Below.refl _ _).alloc (Nat.le_refl _) _).trans (hb1.mono (by simp))
 have x1a : Blk w1 w.heap.size 39 #[.bool false, .slice none 0 0, .slice none 0 0] := (blkAt _ _ _ (by simp)).below hb1 (by simp)
 have bw1 := (brefl w).trans (q1.mono (brefl w).size)
 have lw1 : w.heap.size + 1 ≤ w1.heap.size := by have := hb1.size; simp at this; omega
 clear q1
 go_wp2_with fail
 (with_reducible refine (r_digitsEnd_x _ (s) (0) 0 rfl (Nat.zero_le _) hsl (D.length : Nat) (by rw [List.drop_zero, Nat.zero_add, HDG.out])).mono ?_); rintro e w2 ⟨rfl, q2⟩
 replace x1a := x1a.b q2
 have bw2 := bw1.trans (q2.mono bw1.size)
 have lw2 := q2.size
 clear q2 bw1
 go_wp2_with fail
 (with_reducible refine (r_whole _ (D) HD.out hDl6).mono ?_); rintro e w3 ⟨b3, A3, n3, c3, A'3, n'3, c'3, rfl, h3, q3⟩
 replace x1a := x1a.b q3
 have bw3 := bw2.trans (q3.mono bw2.size)
 have lw3 := q3.size
 clear q3 bw2
 go_wp2_with fail
 (with_reducible refine (r_at_x _ (s) ((D.length : Nat)) D.length rfl 47 HAT.out).mono ?_); rintro e w4 ⟨rfl, hb4⟩
 have q4 := ((Below.refl _ _).alloc (Nat.le_refl _) _).trans (hb4.mono (by simp))
 replace h3 := h3.belw q4
 replace x1a := x1a.b q4
 have x4a : Blk w4 w3.heap.size 39 #[.bool b3, .slice A3 n3 c3, .slice A'3 n'3 c'3] := (blkAt _ _ _ (by simp)).below hb4 (by simp)
 have bw4 := bw3.trans (q4.mono bw3.size)
 have lw4 : w3.heap.size + 1 ≤ w4.heap.size := by have := hb4.size; simp at this; omega
 clear q4 bw3
 go_wp2_with fail
 (with_reducible refine (r_whole _ (E) HE.out hEl6).mono ?_); rintro e w5 ⟨b5, A5, n5, c5, A'5, n'5, c'5, rfl, h5, q5⟩
 replace h3 := h3.belw q5
 replace x1a := x1a.b q5
 replace x4a := x4a.b q5
 have bw5 := bw4.trans (q5.mono bw4.size)
 have lw5 := q5.size
 clear q5 bw4
 go_wp2_with fail
 (with_reducible refine (g_sign_v _ b5 A5 n5 c5 A'5 n'5 c'5 ((((decVal E : Nat) : Int) : Rat)) (181) ?_ 0 (by rw [HZD.out]; exact HS0.out) ?_ ?_).mono ?_); (exact (h5.belw ((Below.refl _ _).alloc (Nat.le_refl _) _)).qz); (omega); (omega); rintro e w6 ⟨rfl, hb6⟩
 have q6 := ((Below.refl _ _).alloc (Nat.le_refl _) _).trans (hb6.mono (by simp))
 replace h3 := h3.belw q6
 replace h5 := h5.belw q6
 replace x1a := x1a.b q6
 replace x4a := x4a.b q6
 have x6a : Blk w6 w5.heap.size 39 #[.bool b5, .slice A5 n5 c5, .slice A'5 n'5 c'5] := (blkAt _ _ _ (by simp)).below hb6 (by simp)
 have bw6 := bw5.trans (q6.mono bw5.size)
 have lw6 : w5.heap.size + 1 ≤ w6.heap.size := by have := hb6.size; simp at this; omega
 clear q6 bw5
 obtain ⟨cx1aa, cx1ab, cx1ac⟩ := x1a.c3
 obtain ⟨fx1aa, fx1ab, fx1ac⟩ := x1a.f3
 obtain ⟨lx1aa, lx1ab, lx1ac, lx1ad⟩ := lts0 x1a.lt
 go_wp2_with fail
 refine bodyPost_ret (v := .tuple #[.agg #[.bool false, .slice none 0 0, .slice none 0 0], .int .i64 8]) (by simp [results, Tryz.results17, go_sem, *] <;> first | rfl | exact ⟨rfl, rfl⟩) rfl ?_
 exact ⟨_, _, _, _, _, _, _, rfl, QV.zero _ _, (((bw6.sc w.heap.size 0 (by omega) (.bool false)).sc w.heap.size 1 (by omega) (.slice none 0 0)).sc w.heap.size 2 (by omega) (.slice none 0 0))⟩
theorem r_value_quo0_t (w : World) (s D E : List UInt8) (h : s.length ≤ 60) (hn : numN s = s.length) (hD : isD D) (hE : isD E) (hs : s = sg true (D ++ 47 :: E)) (h0 : decVal E = 0) : Calls Tryz.prog 17 #[strV s] w (RetFe w (.int .i64 8) 0 1) := by
 have hszs := size_v s
 have hlen : ((60 : Int) < (s.length : Int)) = False := eq_false (by omega)
 have he45 := atB_sg true (r := (47 :: E)) hD
 skip
 rw [← hs] at he45
 obtain ⟨B, hB⟩ : ∃ B : List UInt8, (D ++ 47 :: E) = B := ⟨_, rfl⟩
 have hBl : B.length = D.length + (1 + E.length) := by rw [← hB]; simp only [List.length_append, List.length_cons]; omega
 have hDl : 0 < D.length := List.length_pos_iff.2 hD.1
 have hdg : digN B = D.length := by rw [← hB]; exact digN_front hD.2 (fun c t e => by injection e with e _; rw [← e]; rfl)
 have hat : atB B D.length = 47 := by rw [← hB]; exact atB_mid D E 47
 have e2 : (⟨B.toArray⟩ : ByteArray).extract 0 D.length = ⟨D.toArray⟩ := by rw [ext_v, List.drop_zero, Nat.sub_zero, ← hB]; simp
 rw [hB] at hs
 have hszB := size_v B
 have hEl : 0 < E.length := List.length_pos_iff.2 hE.1
 have hsl1 : s.length = B.length + 1 := by rw [hs]; rfl
 obtain ⟨c0, hc0⟩ : ∃ c, atB s 0 = c := ⟨_, rfl⟩
 have hlt0 : 0 < s.length := by omega
 have hget : ∀ h, (⟨s.toArray⟩ : ByteArray)[0]'h = c0 := fun h => by rw [← hc0]; exact (atB_lt hlt0).symm
 rw [hc0] at he45
 have hn0 : ((s.length : Int) == 0) = false := beq_eq_false_iff_ne.2 (by omega)
 have hn00 : ((s.length : Int) = 0) = False := eq_false (by omega)
 have hsl : s.length < 4611686018427387904 := by omega
 have hBsl : B.length < 4611686018427387904 := by omega
 have hDB : (D.length : Int) ≤ (B.length : Int) := by omega
 have hD0 : (0 : Int) ≤ (D.length : Int) := by omega
 have e1 : (⟨s.toArray⟩ : ByteArray).extract 1 s.length = ⟨B.toArray⟩ := by
  rw [ext_v, hs]; simp [sg]
 have hs1 : (1 : Int) ≤ (s.length : Int) := by omega
 have hw1 : IntKind.i64.wrap ((D.length : Int) + 1) = (D.length : Int) + 1 := IntWalk.i64_in _ ⟨by omega, by omega⟩
 have ht1 : ((D.length : Int) + 1).toNat = D.length + 1 := by omega
 have hD1 : (D.length : Int) + 1 ≤ (B.length : Int) := by omega
 have hD2 : (0 : Int) ≤ (D.length : Int) + 1 := by omega
 have e3 : (⟨B.toArray⟩ : ByteArray).extract (D.length + 1) B.length = ⟨E.toArray⟩ := by
  rw [ext_v, ← hB]; simp; exact List.take_of_length_le (by omega)
 have hDl6 : D.length ≤ 60 := by omega
 have hEl6 : E.length ≤ 60 := by omega
 obtain ⟨zn, hzn⟩ : ∃ zn : Nat, decVal D = zn := ⟨_, rfl⟩
 obtain ⟨zd, hzd⟩ : ∃ zd : Nat, decVal E = zd := ⟨_, rfl⟩
 rw [hzd] at h0
 have HS0 : Hid ((((zd : Int) : Rat)).num.sign = 0) := Lib.hid (by rw [h0]; rfl)
 have HZN := Lib.hid hzn
 have HZD := Lib.hid hzd
 have HD := Lib.hid hD.2
 have HE := Lib.hid hE.2
 have HDG := Lib.hid hdg
 have HAT := Lib.hid hat
 have HN := Lib.hid hn
 clear hn hD hB hdg hat hc0 hzn hs hE hzd h0
 have hBl1 : B.length ≤ D.length + (1 + E.length) := by omega
 have hBl2 : D.length + (1 + E.length) ≤ B.length := by omega
 have hS1 : s.length ≤ B.length + 1 := by omega
 clear hBl hsl1
 go_enter Tryz.func17, Tryz.ntmps17
 go_wp2_with fail
 (with_reducible refine (r_numberEnd _ (s) (0) 0 rfl (Nat.zero_le _) hsl (s.length : Nat) (by rw [List.drop_zero, Nat.zero_add, HN.out])).mono ?_); rintro e w1 ⟨rfl, hb1⟩
 have q1 := ((Below.refl _ _).alloc (Nat.le_refl _) _).trans (hb1.mono (by simp))
 have x1a : Blk w1 w.heap.size 39 #[.bool false, .slice none 0 0, .slice none 0 0] := (blkAt _ _ _ (by simp)).below hb1 (by simp)
 have bw1 := (brefl w).trans (q1.mono (brefl w).size)
 have lw1 : w.heap.size + 1 ≤ w1.heap.size := by have := hb1.size; simp at this; omega
 clear q1
 go_wp2_with fail
 (with_reducible refine (r_digitsEnd_x _ (B) (0) 0 rfl (Nat.zero_le _) hBsl (D.length : Nat) (by rw [List.drop_zero, Nat.zero_add, HDG.out])).mono ?_); rintro e w2 ⟨rfl, q2⟩
 replace x1a := x1a.b q2
 have bw2 := bw1.trans (q2.mono bw1.size)
 have lw2 := q2.size
 clear q2 bw1
 go_wp2_with fail
 (with_reducible refine (r_whole _ (D) HD.out hDl6).mono ?_); rintro e w3 ⟨b3, A3, n3, c3, A'3, n'3, c'3, rfl, h3, q3⟩
 replace x1a := x1a.b q3
 have bw3 := bw2.trans (q3.mono bw2.size)
 have lw3 := q3.size
 clear q3 bw2
 go_wp2_with fail
 (with_reducible refine (r_at_x _ (B) ((D.length : Nat)) D.length rfl 47 HAT.out).mono ?_); rintro e w4 ⟨rfl, hb4⟩
 have q4 := ((Below.refl _ _).alloc (Nat.le_refl _) _).trans (hb4.mono (by simp))
 replace h3 := h3.belw q4
 replace x1a := x1a.b q4
 have x4a : Blk w4 w3.heap.size 39 #[.bool b3, .slice A3 n3 c3, .slice A'3 n'3 c'3] := (blkAt _ _ _ (by simp)).below hb4 (by simp)
 have bw4 := bw3.trans (q4.mono bw3.size)
 have lw4 : w3.heap.size + 1 ≤ w4.heap.size := by have := hb4.size; simp at this; omega
 clear q4 bw3
 go_wp2_with fail
 (with_reducible refine (r_whole _ (E) HE.out hEl6).mono ?_); rintro e w5 ⟨b5, A5, n5, c5, A'5, n'5, c'5, rfl, h5, q5⟩
 replace h3 := h3.belw q5
 replace x1a := x1a.b q5
 replace x4a := x4a.b q5
 have bw5 := bw4.trans (q5.mono bw4.size)
 have lw5 := q5.size
 clear q5 bw4
 go_wp2_with fail
 (with_reducible refine (g_sign_v _ b5 A5 n5 c5 A'5 n'5 c'5 ((((decVal E : Nat) : Int) : Rat)) (181) ?_ 0 (by rw [HZD.out]; exact HS0.out) ?_ ?_).mono ?_); (exact (h5.belw ((Below.refl _ _).alloc (Nat.le_refl _) _)).qz); (omega); (omega); rintro e w6 ⟨rfl, hb6⟩
 have q6 := ((Below.refl _ _).alloc (Nat.le_refl _) _).trans (hb6.mono (by simp))
 replace h3 := h3.belw q6
 replace h5 := h5.belw q6
 replace x1a := x1a.b q6
 replace x4a := x4a.b q6
 have x6a : Blk w6 w5.heap.size 39 #[.bool b5, .slice A5 n5 c5, .slice A'5 n'5 c'5] := (blkAt _ _ _ (by simp)).below hb6 (by simp)
 have bw6 := bw5.trans (q6.mono bw5.size)
 have lw6 : w5.heap.size + 1 ≤ w6.heap.size := by have := hb6.size; simp at this; omega
 clear q6 bw5
 obtain ⟨cx1aa, cx1ab, cx1ac⟩ := x1a.c3
 obtain ⟨fx1aa, fx1ab, fx1ac⟩ := x1a.f3
 obtain ⟨lx1aa, lx1ab, lx1ac, lx1ad⟩ := lts0 x1a.lt
 go_wp2_with fail
 refine bodyPost_ret (v := .tuple #[.agg #[.bool false, .slice none 0 0, .slice none 0 0], .int .i64 8]) (by simp [results, Tryz.results17, go_sem, *] <;> first | rfl | exact ⟨rfl, rfl⟩) rfl ?_
 exact ⟨_, _, _, _, _, _, _, rfl, QV.zero _ _, (((bw6.sc w.heap.size 0 (by omega) (.bool false)).sc w.heap.size 1 (by omega) (.slice none 0 0)).sc w.heap.size 2 (by omega) (.slice none 0 0))⟩
theorem r_value_quo_f (w : World) (s D E : List UInt8) (h : s.length ≤ 60) (hn : numN s = s.length) (hD : isD D) (hE : isD E) (hs : s = sg false (D ++ 47 :: E)) (h0 : decVal E ≠ 0) : Calls Tryz.prog 17 #[strV s] w (RetFe w (.int .i64 0) (Rat.divInt (sgI false (decVal D)) (decVal E)) 500) := by
 have hszs := size_v s
 have hlen : ((60 : Int) < (s.length : Int)) = False := eq_false (by omega)
 have he45 := atB_sg false (r := (47 :: E)) hD
 skip
 rw [← hs] at he45
 obtain ⟨B, hB⟩ : ∃ B : List UInt8, (D ++ 47 :: E) = B := ⟨_, rfl⟩
 have hBl : B.length = D.length + (1 + E.length) := by rw [← hB]; simp only [List.length_append, List.length_cons]; omega
 have hDl : 0 < D.length := List.length_pos_iff.2 hD.1
 have hdg : digN B = D.length := by rw [← hB]; exact digN_front hD.2 (fun c t e => by injection e with e _; rw [← e]; rfl)
 have hat : atB B D.length = 47 := by rw [← hB]; exact atB_mid D E 47
 have e2 : (⟨B.toArray⟩ : ByteArray).extract 0 D.length = ⟨D.toArray⟩ := by rw [ext_v, List.drop_zero, Nat.sub_zero, ← hB]; simp
 rw [hB] at hs
 have hszB := size_v B
 have hEl : 0 < E.length := List.length_pos_iff.2 hE.1
 replace hs : s = B := hs
 subst hs
 obtain ⟨c0, hc0⟩ : ∃ c, atB s 0 = c := ⟨_, rfl⟩
 have hlt0 : 0 < s.length := by omega
 have hget : ∀ h, (⟨s.toArray⟩ : ByteArray)[0]'h = c0 := fun h => by rw [← hc0]; exact (atB_lt hlt0).symm
 rw [hc0] at he45
 have hn0 : ((s.length : Int) == 0) = false := beq_eq_false_iff_ne.2 (by omega)
 have hn00 : ((s.length : Int) = 0) = False := eq_false (by omega)
 have hsl : s.length < 4611686018427387904 := by omega
 have hDB : (D.length : Int) ≤ (s.length : Int) := by omega
 have hD0 : (0 : Int) ≤ (D.length : Int) := by omega
 have hw1 : IntKind.i64.wrap ((D.length : Int) + 1) = (D.length : Int) + 1 := IntWalk.i64_in _ ⟨by omega, by omega⟩
 have ht1 : ((D.length : Int) + 1).toNat = D.length + 1 := by omega
 have hD1 : (D.length : Int) + 1 ≤ (s.length : Int) := by omega
 have hD2 : (0 : Int) ≤ (D.length : Int) + 1 := by omega
 have e3 : (⟨s.toArray⟩ : ByteArray).extract (D.length + 1) s.length = ⟨E.toArray⟩ := by
  rw [ext_v, ← hB]; simp; exact List.take_of_length_le (by omega)
 have hDl6 : D.length ≤ 60 := by omega
 have hEl6 : E.length ≤ 60 := by omega
 obtain ⟨zn, hzn⟩ : ∃ zn : Nat, decVal D = zn := ⟨_, rfl⟩
 rw [hzn]
 obtain ⟨zd, hzd⟩ : ∃ zd : Nat, decVal E = zd := ⟨_, rfl⟩
 rw [hzd] at h0
 rw [hzd]
 have hzq : (((decVal E : Nat) : Int) : Rat) ≠ 0 := by
  intro e
  have := Rat.intCast_inj.1 (show ((decVal E : Int) : Rat) = ((0 : Int) : Rat) from e)
  omega
 have HZQ := Lib.hid hzq
 have HS1 : Hid ((((zd : Int) : Rat)).num.sign = 1) := Lib.hid (by show (zd : Int).sign = 1; exact Int.sign_eq_one_of_pos (by omega))
 have HZN := Lib.hid hzn
 have HZD := Lib.hid hzd
 have HD := Lib.hid hD.2
 have HE := Lib.hid hE.2
 have HDG := Lib.hid hdg
 have HAT := Lib.hid hat
 have HN := Lib.hid hn
 clear hn hD hB hdg hat hc0 hzn hE hzd h0 hzq
 have hBl1 : s.length ≤ D.length + (1 + E.length) := by omega
 have hBl2 : D.length + (1 + E.length) ≤ s.length := by omega
 have hS1 : s.length ≤ s.length + 0 := by omega
 clear hBl
 go_enter Tryz.func17, Tryz.ntmps17
 go_wp2_with fail
 (with_reducible refine (r_numberEnd _ (s) (0) 0 rfl (Nat.zero_le _) hsl (s.length : Nat) (by rw [List.drop_zero, Nat.zero_add, HN.out])).mono ?_); rintro e w1 ⟨rfl, hb1⟩
 have q1 := ((Below.refl _ _).alloc (Nat.le_refl _) _).trans (hb1.mono (by simp))
 have x1a : Blk w1 w.heap.size 39 #[.bool false, .slice none 0 0, .slice none 0 0] := (blkAt _ _ _ (by simp)).below hb1 (by simp)
 have bw1 := (brefl w).trans (q1.mono (brefl w).size)
 have lw1 : w.heap.size + 1 ≤ w1.heap.size := by have := hb1.size; simp at this; omega
 clear q1
 go_wp2_with fail
 (with_reducible refine (r_digitsEnd_x _ (s) (0) 0 rfl (Nat.zero_le _) hsl (D.length : Nat) (by rw [List.drop_zero, Nat.zero_add, HDG.out])).mono ?_); rintro e w2 ⟨rfl, q2⟩
 replace x1a := x1a.b q2
 have bw2 := bw1.trans (q2.mono bw1.size)
 have lw2 := q2.size
 clear q2 bw1
 go_wp2_with fail
 (with_reducible refine (r_whole _ (D) HD.out hDl6).mono ?_); rintro e w3 ⟨b3, A3, n3, c3, A'3, n'3, c'3, rfl, h3, q3⟩
 replace x1a := x1a.b q3
 have bw3 := bw2.trans (q3.mono bw2.size)
 have lw3 := q3.size
 clear q3 bw2
 go_wp2_with fail
 (with_reducible refine (r_at_x _ (s) ((D.length : Nat)) D.length rfl 47 HAT.out).mono ?_); rintro e w4 ⟨rfl, hb4⟩
 have q4 := ((Below.refl _ _).alloc (Nat.le_refl _) _).trans (hb4.mono (by simp))
 replace h3 := h3.belw q4
 replace x1a := x1a.b q4
 have x4a : Blk w4 w3.heap.size 39 #[.bool b3, .slice A3 n3 c3, .slice A'3 n'3 c'3] := (blkAt _ _ _ (by simp)).below hb4 (by simp)
 have bw4 := bw3.trans (q4.mono bw3.size)
 have lw4 : w3.heap.size + 1 ≤ w4.heap.size := by have := hb4.size; simp at this; omega
 clear q4 bw3
 go_wp2_with fail
 (with_reducible refine (r_whole _ (E) HE.out hEl6).mono ?_); rintro e w5 ⟨b5, A5, n5, c5, A'5, n'5, c'5, rfl, h5, q5⟩
 replace h3 := h3.belw q5
 replace x1a := x1a.b q5
 replace x4a := x4a.b q5
 have bw5 := bw4.trans (q5.mono bw4.size)
 have lw5 := q5.size
 clear q5 bw4
 go_wp2_with fail
 (with_reducible refine (g_sign_v _ b5 A5 n5 c5 A'5 n'5 c'5 ((((decVal E : Nat) : Int) : Rat)) (181) ?_ 1 (by rw [HZD.out]; exact HS1.out) ?_ ?_).mono ?_); (exact (h5.belw ((Below.refl _ _).alloc (Nat.le_refl _) _)).qz); (omega); (omega); rintro e w6 ⟨rfl, hb6⟩
 have q6 := ((Below.refl _ _).alloc (Nat.le_refl _) _).trans (hb6.mono (by simp))
 replace h3 := h3.belw q6
 replace h5 := h5.belw q6
 replace x1a := x1a.b q6
 replace x4a := x4a.b q6
 have x6a : Blk w6 w5.heap.size 39 #[.bool b5, .slice A5 n5 c5, .slice A'5 n'5 c'5] := (blkAt _ _ _ (by simp)).below hb6 (by simp)
 have bw6 := bw5.trans (q6.mono bw5.size)
 have lw6 : w5.heap.size + 1 ≤ w6.heap.size := by have := hb6.size; simp at this; omega
 clear q6 bw5
 obtain ⟨cx4aa, cx4ab, cx4ac⟩ := x4a.c3
 obtain ⟨lx4aa, lx4ab, lx4ac, lx4ad⟩ := lts0 x4a.lt
 obtain ⟨cx6aa, cx6ab, cx6ac⟩ := x6a.c3
 obtain ⟨lx6aa, lx6ab, lx6ac, lx6ad⟩ := lts0 x6a.lt
 go_wp2_with fail
 (with_reducible refine (g_div _ b3 A3 n3 c3 A'3 n'3 c'3 ((((decVal D : Nat) : Int) : Rat)) (181) ?_ b5 A5 n5 c5 A'5 n'5 c'5 ((((decVal E : Nat) : Int) : Rat)) (181) ?_ ?_ ?_ ?_ ?_ ?_).mono ?_); (exact h3.qz); (exact h5.qz); (omega); (omega); (omega); (omega); (exact HZQ.out); rintro e w7 ⟨b7, A7, n7, c7, A'7, n'7, c'7, rfl, h7, q7⟩
 clear cx4aa cx4ab cx4ac lx4aa lx4ab lx4ac lx4ad cx6aa cx6ab cx6ac lx6aa lx6ab lx6ac lx6ad
 replace h3 := h3.belw q7
 replace h5 := h5.belw q7
 replace x1a := x1a.b q7
 replace x4a := x4a.b q7
 replace x6a := x6a.b q7
 have bw7 := bw6.trans (q7.mono bw6.size)
 have lw7 := q7.size
 clear q7 bw6
 obtain ⟨cx4aa, cx4ab, cx4ac⟩ := x4a.c3
 obtain ⟨fx4aa, fx4ab, fx4ac⟩ := x4a.f3
 obtain ⟨lx4aa, lx4ab, lx4ac, lx4ad⟩ := lts0 x4a.lt
 go_wp2_with fail
 clear cx4aa fx4aa cx4ab fx4ab cx4ac fx4ac lx4aa lx4ab lx4ac lx4ad
 have p8 := ((((Kp.refl w7).sb w3.heap.size 0 x4a.box (by decide) (.bool b7)).sb w3.heap.size 1 (x4a.box.set ⟨w3.heap.size, 0, none⟩ (.bool b7)) (by decide) (.slice A7 n7 c7)).sb w3.heap.size 2 ((x4a.box.set ⟨w3.heap.size, 0, none⟩ (.bool b7)).set ⟨w3.heap.size, 1, none⟩ (.slice A7 n7 c7)) (by decide) (.slice A'7 n'7 c'7))
 have bw8 := (((bw7.sc w3.heap.size 0 (by omega) (.bool b7)).sc w3.heap.size 1 (by omega) (.slice A7 n7 c7)).sc w3.heap.size 2 (by omega) (.slice A'7 n'7 c'7))
 replace x1a := (((x1a.fr w3.heap.size 0 (by omega) (.bool b7)).fr w3.heap.size 1 (by omega) (.slice A7 n7 c7)).fr w3.heap.size 2 (by omega) (.slice A'7 n'7 c'7))
 replace x4a := (((x4a.set_at 0 (.bool b7) #[.bool b7, .slice A3 n3 c3, .slice A'3 n'3 c'3] (by simp)).set_at 1 (.slice A7 n7 c7) #[.bool b7, .slice A7 n7 c7, .slice A'3 n'3 c'3] (by simp)).set_at 2 (.slice A'7 n'7 c'7) #[.bool b7, .slice A7 n7 c7, .slice A'7 n'7 c'7] (by simp))
 replace x6a := (((x6a.fr w3.heap.size 0 (by omega) (.bool b7)).fr w3.heap.size 1 (by omega) (.slice A7 n7 c7)).fr w3.heap.size 2 (by omega) (.slice A'7 n'7 c'7))
 have lw8 : w7.heap.size + 0 ≤ (((w7.setCell ⟨w3.heap.size, 0, none⟩ (.bool b7)).setCell ⟨w3.heap.size, 1, none⟩ (.slice A7 n7 c7)).setCell ⟨w3.heap.size, 2, none⟩ (.slice A'7 n'7 c'7)).heap.size := by simp
 generalize hE8 : (((w7.setCell ⟨w3.heap.size, 0, none⟩ (.bool b7)).setCell ⟨w3.heap.size, 1, none⟩ (.slice A7 n7 c7)).setCell ⟨w3.heap.size, 2, none⟩ (.slice A'7 n'7 c'7)) = w8 at p8 bw8 lw8 x1a x4a x6a ⊢
 clear hE8
 replace h3 := h3.keep p8
 replace h5 := h5.keep p8
 replace h7 := h7.keep p8
 clear bw7
 (with_reducible refine (r_at_x _ (s) ((D.length : Nat)) D.length rfl 47 HAT.out).mono ?_); rintro e w9 ⟨rfl, q9⟩
 replace h3 := h3.belw q9
 replace h5 := h5.belw q9
 replace h7 := h7.belw q9
 replace x1a := x1a.b q9
 replace x4a := x4a.b q9
 replace x6a := x6a.b q9
 have bw9 := bw8.trans (q9.mono bw8.size)
 have lw9 := q9.size
 clear q9 bw8
 obtain ⟨cx1aa, cx1ab, cx1ac⟩ := x1a.c3
 obtain ⟨fx1aa, fx1ab, fx1ac⟩ := x1a.f3
 obtain ⟨lx1aa, lx1ab, lx1ac, lx1ad⟩ := lts0 x1a.lt
 obtain ⟨cx4aa, cx4ab, cx4ac⟩ := x4a.c3
 obtain ⟨lx4aa, lx4ab, lx4ac, lx4ad⟩ := lts0 x4a.lt
 go_wp2_with fail
 refine bodyPost_ret (v := .tuple #[.agg #[.bool b7, .slice A7 n7 c7, .slice A'7 n'7 c'7], .int .i64 0]) (by simp [results, Tryz.results17, go_sem, *] <;> first | rfl | exact ⟨rfl, rfl⟩) rfl ?_
 have hval : ((((decVal D : Nat) : Int) : Rat)) / ((((decVal E : Nat) : Int) : Rat)) = Rat.divInt (sgI false ((zn : Nat) : Int)) ((zd : Nat) : Int) := by rw [HZN.out, HZD.out]; exact (Rat.divInt_eq_div _ _).symm
 exact ⟨_, _, _, _, _, _, _, rfl, by rw [← hval]; exact ((h7).keep ((((Kp.refl w9).sb w.heap.size 0 x1a.box (by decide) (.bool b7)).sb w.heap.size 1 (x1a.box.set ⟨w.heap.size, 0, none⟩ (.bool b7)) (by decide) (.slice A7 n7 c7)).sb w.heap.size 2 ((x1a.box.set ⟨w.heap.size, 0, none⟩ (.bool b7)).set ⟨w.heap.size, 1, none⟩ (.slice A7 n7 c7)) (by decide) (.slice A'7 n'7 c'7))).mono (by omega), (((bw9.sc w.heap.size 0 (by omega) (.bool b7)).sc w.heap.size 1 (by omega) (.slice A7 n7 c7)).sc w.heap.size 2 (by omega) (.slice A'7 n'7 c'7))⟩
theorem r_value_quo_t (w : World) (s D E : List UInt8) (h : s.length ≤ 60) (hn : numN s = s.length) (hD : isD D) (hE : isD E) (hs : s = sg true (D ++ 47 :: E)) (h0 : decVal E ≠ 0) : Calls Tryz.prog 17 #[strV s] w (RetFe w (.int .i64 0) (Rat.divInt (sgI true (decVal D)) (decVal E)) 500) := by
 have hszs := size_v s
 have hlen : ((60 : Int) < (s.length : Int)) = False := eq_false (by omega)
 have he45 := atB_sg true (r := (47 :: E)) hD
 skip
 rw [← hs] at he45
 obtain ⟨B, hB⟩ : ∃ B : List UInt8, (D ++ 47 :: E) = B := ⟨_, rfl⟩
 have hBl : B.length = D.length + (1 + E.length) := by rw [← hB]; simp only [List.length_append, List.length_cons]; omega
 have hDl : 0 < D.length := List.length_pos_iff.2 hD.1
 have hdg : digN B = D.length := by rw [← hB]; exact digN_front hD.2 (fun c t e => by injection e with e _; rw [← e]; rfl)
 have hat : atB B D.length = 47 := by rw [← hB]; exact atB_mid D E 47
 have e2 : (⟨B.toArray⟩ : ByteArray).extract 0 D.length = ⟨D.toArray⟩ := by rw [ext_v, List.drop_zero, Nat.sub_zero, ← hB]; simp
 rw [hB] at hs
 have hszB := size_v B
 have hEl : 0 < E.length := List.length_pos_iff.2 hE.1
 have hsl1 : s.length = B.length + 1 := by rw [hs]; rfl
 obtain ⟨c0, hc0⟩ : ∃ c, atB s 0 = c := ⟨_, rfl⟩
 have hlt0 : 0 < s.length := by omega
 have hget : ∀ h, (⟨s.toArray⟩ : ByteArray)[0]'h = c0 := fun h => by rw [← hc0]; exact (atB_lt hlt0).symm
 rw [hc0] at he45
 have hn0 : ((s.length : Int) == 0) = false := beq_eq_false_iff_ne.2 (by omega)
 have hn00 : ((s.length : Int) = 0) = False := eq_false (by omega)
 have hsl : s.length < 4611686018427387904 := by omega
 have hBsl : B.length < 4611686018427387904 := by omega
 have hDB : (D.length : Int) ≤ (B.length : Int) := by omega
 have hD0 : (0 : Int) ≤ (D.length : Int) := by omega
 have e1 : (⟨s.toArray⟩ : ByteArray).extract 1 s.length = ⟨B.toArray⟩ := by
  rw [ext_v, hs]; simp [sg]
 have hs1 : (1 : Int) ≤ (s.length : Int) := by omega
 have hw1 : IntKind.i64.wrap ((D.length : Int) + 1) = (D.length : Int) + 1 := IntWalk.i64_in _ ⟨by omega, by omega⟩
 have ht1 : ((D.length : Int) + 1).toNat = D.length + 1 := by omega
 have hD1 : (D.length : Int) + 1 ≤ (B.length : Int) := by omega
 have hD2 : (0 : Int) ≤ (D.length : Int) + 1 := by omega
 have e3 : (⟨B.toArray⟩ : ByteArray).extract (D.length + 1) B.length = ⟨E.toArray⟩ := by
  rw [ext_v, ← hB]; simp; exact List.take_of_length_le (by omega)
 have hDl6 : D.length ≤ 60 := by omega
 have hEl6 : E.length ≤ 60 := by omega
 obtain ⟨zn, hzn⟩ : ∃ zn : Nat, decVal D = zn := ⟨_, rfl⟩
 rw [hzn]
 obtain ⟨zd, hzd⟩ : ∃ zd : Nat, decVal E = zd := ⟨_, rfl⟩
 rw [hzd] at h0
 rw [hzd]
 have hzq : (((decVal E : Nat) : Int) : Rat) ≠ 0 := by
  intro e
  have := Rat.intCast_inj.1 (show ((decVal E : Int) : Rat) = ((0 : Int) : Rat) from e)
  omega
 have HZQ := Lib.hid hzq
 have HS1 : Hid ((((zd : Int) : Rat)).num.sign = 1) := Lib.hid (by show (zd : Int).sign = 1; exact Int.sign_eq_one_of_pos (by omega))
 have HZN := Lib.hid hzn
 have HZD := Lib.hid hzd
 have HD := Lib.hid hD.2
 have HE := Lib.hid hE.2
 have HDG := Lib.hid hdg
 have HAT := Lib.hid hat
 have HN := Lib.hid hn
 clear hn hD hB hdg hat hc0 hzn hs hE hzd h0 hzq
 have hBl1 : B.length ≤ D.length + (1 + E.length) := by omega
 have hBl2 : D.length + (1 + E.length) ≤ B.length := by omega
 have hS1 : s.length ≤ B.length + 1 := by omega
 clear hBl hsl1
 go_enter Tryz.func17, Tryz.ntmps17
 go_wp2_with fail
 (with_reducible refine (r_numberEnd _ (s) (0) 0 rfl (Nat.zero_le _) hsl (s.length : Nat) (by rw [List.drop_zero, Nat.zero_add, HN.out])).mono ?_); rintro e w1 ⟨rfl, hb1⟩
 have q1 := ((Below.refl _ _).alloc (Nat.le_refl _) _).trans (hb1.mono (by simp))
 have x1a : Blk w1 w.heap.size 39 #[.bool false, .slice none 0 0, .slice none 0 0] := (blkAt _ _ _ (by simp)).below hb1 (by simp)
 have bw1 := (brefl w).trans (q1.mono (brefl w).size)
 have lw1 : w.heap.size + 1 ≤ w1.heap.size := by have := hb1.size; simp at this; omega
 clear q1
 go_wp2_with fail
 (with_reducible refine (r_digitsEnd_x _ (B) (0) 0 rfl (Nat.zero_le _) hBsl (D.length : Nat) (by rw [List.drop_zero, Nat.zero_add, HDG.out])).mono ?_); rintro e w2 ⟨rfl, q2⟩
 replace x1a := x1a.b q2
 have bw2 := bw1.trans (q2.mono bw1.size)
 have lw2 := q2.size
 clear q2 bw1
 go_wp2_with fail
 (with_reducible refine (r_whole _ (D) HD.out hDl6).mono ?_); rintro e w3 ⟨b3, A3, n3, c3, A'3, n'3, c'3, rfl, h3, q3⟩
 replace x1a := x1a.b q3
 have bw3 := bw2.trans (q3.mono bw2.size)
 have lw3 := q3.size
 clear q3 bw2
 go_wp2_with fail
 (with_reducible refine (r_at_x _ (B) ((D.length : Nat)) D.length rfl 47 HAT.out).mono ?_); rintro e w4 ⟨rfl, hb4⟩
 have q4 := ((Below.refl _ _).alloc (Nat.le_refl _) _).trans (hb4.mono (by simp))
 replace h3 := h3.belw q4
 replace x1a := x1a.b q4
 have x4a : Blk w4 w3.heap.size 39 #[.bool b3, .slice A3 n3 c3, .slice A'3 n'3 c'3] := (blkAt _ _ _ (by simp)).below hb4 (by simp)
 have bw4 := bw3.trans (q4.mono bw3.size)
 have lw4 : w3.heap.size + 1 ≤ w4.heap.size := by have := hb4.size; simp at this; omega
 clear q4 bw3
 go_wp2_with fail
 (with_reducible refine (r_whole _ (E) HE.out hEl6).mono ?_); rintro e w5 ⟨b5, A5, n5, c5, A'5, n'5, c'5, rfl, h5, q5⟩
 replace h3 := h3.belw q5
 replace x1a := x1a.b q5
 replace x4a := x4a.b q5
 have bw5 := bw4.trans (q5.mono bw4.size)
 have lw5 := q5.size
 clear q5 bw4
 go_wp2_with fail
 (with_reducible refine (g_sign_v _ b5 A5 n5 c5 A'5 n'5 c'5 ((((decVal E : Nat) : Int) : Rat)) (181) ?_ 1 (by rw [HZD.out]; exact HS1.out) ?_ ?_).mono ?_); (exact (h5.belw ((Below.refl _ _).alloc (Nat.le_refl _) _)).qz); (omega); (omega); rintro e w6 ⟨rfl, hb6⟩
 have q6 := ((Below.refl _ _).alloc (Nat.le_refl _) _).trans (hb6.mono (by simp))
 replace h3 := h3.belw q6
 replace h5 := h5.belw q6
 replace x1a := x1a.b q6
 replace x4a := x4a.b q6
 have x6a : Blk w6 w5.heap.size 39 #[.bool b5, .slice A5 n5 c5, .slice A'5 n'5 c'5] := (blkAt _ _ _ (by simp)).below hb6 (by simp)
 have bw6 := bw5.trans (q6.mono bw5.size)
 have lw6 : w5.heap.size + 1 ≤ w6.heap.size := by have := hb6.size; simp at this; omega
 clear q6 bw5
 obtain ⟨cx4aa, cx4ab, cx4ac⟩ := x4a.c3
 obtain ⟨lx4aa, lx4ab, lx4ac, lx4ad⟩ := lts0 x4a.lt
 obtain ⟨cx6aa, cx6ab, cx6ac⟩ := x6a.c3
 obtain ⟨lx6aa, lx6ab, lx6ac, lx6ad⟩ := lts0 x6a.lt
 go_wp2_with fail
 (with_reducible refine (g_div _ b3 A3 n3 c3 A'3 n'3 c'3 ((((decVal D : Nat) : Int) : Rat)) (181) ?_ b5 A5 n5 c5 A'5 n'5 c'5 ((((decVal E : Nat) : Int) : Rat)) (181) ?_ ?_ ?_ ?_ ?_ ?_).mono ?_); (exact h3.qz); (exact h5.qz); (omega); (omega); (omega); (omega); (exact HZQ.out); rintro e w7 ⟨b7, A7, n7, c7, A'7, n'7, c'7, rfl, h7, q7⟩
 clear cx4aa cx4ab cx4ac lx4aa lx4ab lx4ac lx4ad cx6aa cx6ab cx6ac lx6aa lx6ab lx6ac lx6ad
 replace h3 := h3.belw q7
 replace h5 := h5.belw q7
 replace x1a := x1a.b q7
 replace x4a := x4a.b q7
 replace x6a := x6a.b q7
 have bw7 := bw6.trans (q7.mono bw6.size)
 have lw7 := q7.size
 clear q7 bw6
 obtain ⟨cx4aa, cx4ab, cx4ac⟩ := x4a.c3
 obtain ⟨fx4aa, fx4ab, fx4ac⟩ := x4a.f3
 obtain ⟨lx4aa, lx4ab, lx4ac, lx4ad⟩ := lts0 x4a.lt
 go_wp2_with fail
 clear cx4aa fx4aa cx4ab fx4ab cx4ac fx4ac lx4aa lx4ab lx4ac lx4ad
 have p8 := ((((Kp.refl w7).sb w3.heap.size 0 x4a.box (by decide) (.bool b7)).sb w3.heap.size 1 (x4a.box.set ⟨w3.heap.size, 0, none⟩ (.bool b7)) (by decide) (.slice A7 n7 c7)).sb w3.heap.size 2 ((x4a.box.set ⟨w3.heap.size, 0, none⟩ (.bool b7)).set ⟨w3.heap.size, 1, none⟩ (.slice A7 n7 c7)) (by decide) (.slice A'7 n'7 c'7))
 have bw8 := (((bw7.sc w3.heap.size 0 (by omega) (.bool b7)).sc w3.heap.size 1 (by omega) (.slice A7 n7 c7)).sc w3.heap.size 2 (by omega) (.slice A'7 n'7 c'7))
 replace x1a := (((x1a.fr w3.heap.size 0 (by omega) (.bool b7)).fr w3.heap.size 1 (by omega) (.slice A7 n7 c7)).fr w3.heap.size 2 (by omega) (.slice A'7 n'7 c'7))
 replace x4a := (((x4a.set_at 0 (.bool b7) #[.bool b7, .slice A3 n3 c3, .slice A'3 n'3 c'3] (by simp)).set_at 1 (.slice A7 n7 c7) #[.bool b7, .slice A7 n7 c7, .slice A'3 n'3 c'3] (by simp)).set_at 2 (.slice A'7 n'7 c'7) #[.bool b7, .slice A7 n7 c7, .slice A'7 n'7 c'7] (by simp))
 replace x6a := (((x6a.fr w3.heap.size 0 (by omega) (.bool b7)).fr w3.heap.size 1 (by omega) (.slice A7 n7 c7)).fr w3.heap.size 2 (by omega) (.slice A'7 n'7 c'7))
 have lw8 : w7.heap.size + 0 ≤ (((w7.setCell ⟨w3.heap.size, 0, none⟩ (.bool b7)).setCell ⟨w3.heap.size, 1, none⟩ (.slice A7 n7 c7)).setCell ⟨w3.heap.size, 2, none⟩ (.slice A'7 n'7 c'7)).heap.size := by simp
 generalize hE8 : (((w7.setCell ⟨w3.heap.size, 0, none⟩ (.bool b7)).setCell ⟨w3.heap.size, 1, none⟩ (.slice A7 n7 c7)).setCell ⟨w3.heap.size, 2, none⟩ (.slice A'7 n'7 c'7)) = w8 at p8 bw8 lw8 x1a x4a x6a ⊢
 clear hE8
 replace h3 := h3.keep p8
 replace h5 := h5.keep p8
 replace h7 := h7.keep p8
 clear bw7
 (with_reducible refine (r_at_x _ (B) ((D.length : Nat)) D.length rfl 47 HAT.out).mono ?_); rintro e w9 ⟨rfl, q9⟩
 replace h3 := h3.belw q9
 replace h5 := h5.belw q9
 replace h7 := h7.belw q9
 replace x1a := x1a.b q9
 replace x4a := x4a.b q9
 replace x6a := x6a.b q9
 have bw9 := bw8.trans (q9.mono bw8.size)
 have lw9 := q9.size
 clear q9 bw8
 obtain ⟨cx4aa, cx4ab, cx4ac⟩ := x4a.c3
 obtain ⟨lx4aa, lx4ab, lx4ac, lx4ad⟩ := lts0 x4a.lt
 go_wp2_with fail
 (with_reducible refine (g_neg _ b7 A7 n7 c7 A'7 n'7 c'7 (((((decVal D : Nat) : Int) : Rat)) / ((((decVal E : Nat) : Int) : Rat))) ((181) + (181)) ?_ ?_ ?_).mono ?_); (exact h7.qz); (first | omega | decide | assumption); (first | omega | decide | assumption); rintro e w10 ⟨b10, A10, n10, c10, A'10, n'10, c'10, rfl, h10, q10⟩
 clear cx4aa cx4ab cx4ac lx4aa lx4ab lx4ac lx4ad
 replace h3 := h3.belw q10
 replace h5 := h5.belw q10
 replace h7 := h7.belw q10
 replace x1a := x1a.b q10
 replace x4a := x4a.b q10
 replace x6a := x6a.b q10
 have bw10 := bw9.trans (q10.mono bw9.size)
 have lw10 := q10.size
 clear q10 bw9
 obtain ⟨cx1aa, cx1ab, cx1ac⟩ := x1a.c3
 obtain ⟨fx1aa, fx1ab, fx1ac⟩ := x1a.f3
 obtain ⟨lx1aa, lx1ab, lx1ac, lx1ad⟩ := lts0 x1a.lt
 obtain ⟨cx4aa, cx4ab, cx4ac⟩ := x4a.c3
 obtain ⟨fx4aa, fx4ab, fx4ac⟩ := x4a.f3
 obtain ⟨lx4aa, lx4ab, lx4ac, lx4ad⟩ := lts0 x4a.lt
 go_wp2_with fail
 refine bodyPost_ret (v := .tuple #[.agg #[.bool b10, .slice A10 n10 c10, .slice A'10 n'10 c'10], .int .i64 0]) (by simp [results, Tryz.results17, go_sem, *] <;> first | rfl | exact ⟨rfl, rfl⟩) rfl ?_
 have hval : -((((((decVal D : Nat) : Int) : Rat)) / ((((decVal E : Nat) : Int) : Rat)))) = Rat.divInt (sgI true ((zn : Nat) : Int)) ((zd : Nat) : Int) := by rw [HZN.out, HZD.out]; rw [← Rat.divInt_eq_div]; exact neg_div _ _
 exact ⟨_, _, _, _, _, _, _, rfl, by rw [← hval]; exact ((h10).keep (((((((Kp.refl w10).sb w3.heap.size 0 x4a.box (by decide) (.bool b10)).sb w3.heap.size 1 (x4a.box.set ⟨w3.heap.size, 0, none⟩ (.bool b10)) (by decide) (.slice A10 n10 c10)).sb w3.heap.size 2 ((x4a.box.set ⟨w3.heap.size, 0, none⟩ (.bool b10)).set ⟨w3.heap.size, 1, none⟩ (.slice A10 n10 c10)) (by decide) (.slice A'10 n'10 c'10)).sb w.heap.size 0 (((x1a.box.set ⟨w3.heap.size, 0, none⟩ (.bool b10)).set ⟨w3.heap.size, 1, none⟩ (.slice A10 n10 c10)).set ⟨w3.heap.size, 2, none⟩ (.slice A'10 n'10 c'10)) (by decide) (.bool b10)).sb w.heap.size 1 ((((x1a.box.set ⟨w3.heap.size, 0, none⟩ (.bool b10)).set ⟨w3.heap.size, 1, none⟩ (.slice A10 n10 c10)).set ⟨w3.heap.size, 2, none⟩ (.slice A'10 n'10 c'10)).set ⟨w.heap.size, 0, none⟩ (.bool b10)) (by decide) (.slice A10 n10 c10)).sb w.heap.size 2 (((((x1a.box.set ⟨w3.heap.size, 0, none⟩ (.bool b10)).set ⟨w3.heap.size, 1, none⟩ (.slice A10 n10 c10)).set ⟨w3.heap.size, 2, none⟩ (.slice A'10 n'10 c'10)).set ⟨w.heap.size, 0, none⟩ (.bool b10)).set ⟨w.heap.size, 1, none⟩ (.slice A10 n10 c10)) (by decide) (.slice A'10 n'10 c'10))).mono (by omega), ((((((bw10.sc w3.heap.size 0 (by omega) (.bool b10)).sc w3.heap.size 1 (by omega) (.slice A10 n10 c10)).sc w3.heap.size 2 (by omega) (.slice A'10 n'10 c'10)).sc w.heap.size 0 (by omega) (.bool b10)).sc w.heap.size 1 (by omega) (.slice A10 n10 c10)).sc w.heap.size 2 (by omega) (.slice A'10 n'10 c'10))⟩
theorem r_value_dot_f (w : World) (s D E : List UInt8) (h : s.length ≤ 60) (hn : numN s = s.length) (hD : isD D) (hE : isD E) (hs : s = sg false (D ++ 46 :: E)) : Calls Tryz.prog 17 #[strV s] w (RetFe w (.int .i64 0) (Rat.divInt (sgI false (decVal (D ++ E))) ((10 ^ E.length : Nat) : Int)) 500) := by
  have hszs := size_v s
  have hlen : ((60 : Int) < (s.length : Int)) = False := eq_false (by omega)
  have he45 := atB_sg false (r := (46 :: E)) hD
  skip
  rw [← hs] at he45
  obtain ⟨B, hB⟩ : ∃ B : List UInt8, (D ++ 46 :: E) = B := ⟨_, rfl⟩
  have hBl : B.length = D.length + (1 + E.length) := by rw [← hB]; simp only [List.length_append, List.length_cons]; omega
  have hDl : 0 < D.length := List.length_pos_iff.2 hD.1
  have hdg : digN B = D.length := by rw [← hB]; exact digN_front hD.2 (fun c t e => by injection e with e _; rw [← e]; rfl)
  have hat : atB B D.length = 46 := by rw [← hB]; exact atB_mid D E 46
  have e2 : (⟨B.toArray⟩ : ByteArray).extract 0 D.length = ⟨D.toArray⟩ := by rw [ext_v, List.drop_zero, Nat.sub_zero, ← hB]; simp
  rw [hB] at hs
  have hszB := size_v B
  have hEl : 0 < E.length := List.length_pos_iff.2 hE.1
  replace hs : s = B := hs
  subst hs
  obtain ⟨c0, hc0⟩ : ∃ c, atB s 0 = c := ⟨_, rfl⟩
  have hlt0 : 0 < s.length := by omega
  have hget : ∀ h, (⟨s.toArray⟩ : ByteArray)[0]'h = c0 := fun h => by rw [← hc0]; exact (atB_lt hlt0).symm
  rw [hc0] at he45
  have hn0 : ((s.length : Int) == 0) = false := beq_eq_false_iff_ne.2 (by omega)
  have hn00 : ((s.length : Int) = 0) = False := eq_false (by omega)
  have hsl : s.length < 4611686018427387904 := by omega
  have hDB : (D.length : Int) ≤ (s.length : Int) := by omega
  have hD0 : (0 : Int) ≤ (D.length : Int) := by omega
  have hw1 : IntKind.i64.wrap ((D.length : Int) + 1) = (D.length : Int) + 1 := IntWalk.i64_in _ ⟨by omega, by omega⟩
  have ht1 : ((D.length : Int) + 1).toNat = D.length + 1 := by omega
  have hD1 : (D.length : Int) + 1 ≤ (s.length : Int) := by omega
  have hD2 : (0 : Int) ≤ (D.length : Int) + 1 := by omega
  have e3 : (⟨s.toArray⟩ : ByteArray).extract (D.length + 1) s.length = ⟨E.toArray⟩ := by
    rw [ext_v, ← hB]; simp; exact List.take_of_length_le (by omega)
  have ha1 := app_v D E
  have hk1 : (9223372036854775807 < D.length + E.length) = False := eq_false (by omega)
  have hDE : (D ++ E).all isDg = true ∧ (D ++ E).length ≤ 60 := ⟨by rw [List.all_append, hD.2, hE.2]; rfl, by rw [List.length_append]; omega⟩
  have HDE := Lib.hid hDE
  clear hDE
  have HT := Lib.hid (show ((10 : Int) : Rat) ≠ 0 by decide)
  have hDl6 : D.length ≤ 60 := by omega
  have hEl6 : E.length ≤ 60 := by omega
  obtain ⟨zn, hzn⟩ : ∃ zn : Nat, decVal (D ++ E) = zn := ⟨_, rfl⟩
  rw [hzn]
  have HZN := Lib.hid hzn
  have HD := Lib.hid hD.2
  have HE := Lib.hid hE.2
  have HDG := Lib.hid hdg
  have HAT := Lib.hid hat
  have HN := Lib.hid hn
  clear hn hD hB hdg hat hc0 hzn hE
  have hBl1 : s.length ≤ D.length + (1 + E.length) := by omega
  have hBl2 : D.length + (1 + E.length) ≤ s.length := by omega
  have hS1 : s.length ≤ s.length + 0 := by omega
  clear hBl
  go_enter Tryz.func17, Tryz.ntmps17
  go_wp2_with fail
  (with_reducible refine (r_numberEnd _ (s) (0) 0 rfl (Nat.zero_le _) hsl (s.length : Nat) (by rw [List.drop_zero, Nat.zero_add, HN.out])).mono ?_); rintro e w1 ⟨rfl, hb1⟩
  have q1 := ((Below.refl _ _).alloc (Nat.le_refl _) _).trans (hb1.mono (by simp))
  have x1a : Blk w1 w.heap.size 39 #[.bool false, .slice none 0 0, .slice none 0 0] := (blkAt _ _ _ (by simp)).below hb1 (by simp)
  have bw1 := (brefl w).trans (q1.mono (brefl w).size)
  have lw1 : w.heap.size + 1 ≤ w1.heap.size := by have := hb1.size; simp at this; omega
  clear q1
  go_wp2_with fail
  (with_reducible refine (r_digitsEnd_x _ (s) (0) 0 rfl (Nat.zero_le _) hsl (D.length : Nat) (by rw [List.drop_zero, Nat.zero_add, HDG.out])).mono ?_); rintro e w2 ⟨rfl, q2⟩
  replace x1a := x1a.b q2
  have bw2 := bw1.trans (q2.mono bw1.size)
  have lw2 := q2.size
  clear q2 bw1
  go_wp2_with fail
  (with_reducible refine (r_whole _ (D) HD.out hDl6).mono ?_); rintro e w3 ⟨b3, A3, n3, c3, A'3, n'3, c'3, rfl, h3, q3⟩
  replace x1a := x1a.b q3
  have bw3 := bw2.trans (q3.mono bw2.size)
  have lw3 := q3.size
  clear q3 bw2
  go_wp2_with fail
  (with_reducible refine (r_at_x _ (s) ((D.length : Nat)) D.length rfl 46 HAT.out).mono ?_); rintro e w4 ⟨rfl, hb4⟩
  have q4 := ((Below.refl _ _).alloc (Nat.le_refl _) _).trans (hb4.mono (by simp))
  replace h3 := h3.belw q4
  replace x1a := x1a.b q4
  have x4a : Blk w4 w3.heap.size 39 #[.bool b3, .slice A3 n3 c3, .slice A'3 n'3 c'3] := (blkAt _ _ _ (by simp)).below hb4 (by simp)
  have bw4 := bw3.trans (q4.mono bw3.size)
  have lw4 : w3.heap.size + 1 ≤ w4.heap.size := by have := hb4.size; simp at this; omega
  clear q4 bw3
  go_wp2_with fail
  (with_reducible refine (r_at_x _ (s) ((D.length : Nat)) D.length rfl 46 HAT.out).mono ?_); rintro e w5 ⟨rfl, q5⟩
  replace h3 := h3.belw q5
  replace x1a := x1a.b q5
  replace x4a := x4a.b q5
  have bw5 := bw4.trans (q5.mono bw4.size)
  have lw5 := q5.size
  clear q5 bw4
  obtain ⟨lx1aa, lx1ab, lx1ac, lx1ad⟩ := lts0 x1a.lt
  obtain ⟨cx4aa, cx4ab, cx4ac⟩ := x4a.c3
  obtain ⟨fx4aa, fx4ab, fx4ac⟩ := x4a.f3
  obtain ⟨lx4aa, lx4ab, lx4ac, lx4ad⟩ := lts0 x4a.lt
  go_wp2_with fail
  have nfx1_0_0 : ¬ w.heap.size = w3.heap.size := by omega
  have nex1_0_0 : ¬ w.heap.size = w3.heap.size := by omega
  go_region_held3 (fun w' => SeesX w5.heap.size (w3.heap.size) w5 w') (first | with_reducible exact SeesX.of (Nat.le_refl _) (by assumption) | with_reducible exact SeesX.of (Nat.le_refl _) (brefl _).drew | with_reducible exact (SeesX.set (SeesX.set (SeesX.set (SeesX.of (Nat.le_refl _) (by assumption))))) | with_reducible exact (SeesX.set (SeesX.set (SeesX.of (Nat.le_refl _) (by assumption)))) | with_reducible exact (SeesX.set (SeesX.of (Nat.le_refl _) (by assumption))) | exact SeesX.of (Nat.le_refl _) (below_drewN (brefl _) 1) | exact SeesX.of (Nat.le_refl _) (below_drewN (by assumption) _))
    (first
      | (go_at_call 39; (with_reducible refine (r_whole _ ((D ++ E)) HDE.out.1 HDE.out.2).mono ?_); rintro e w6 ⟨b6, A6, n6, c6, A'6, n'6, c'6, rfl, h6, hb6⟩; replace hb6 := bnext (below_drewN (brefl _) 1) hb6; have q6 : Below w5.heap.size w5 w6 := bnext (brefl w5) hb6; replace h3 := h3.belw hb6; have x4a := x4a.b q6; obtain ⟨cx4aa, cx4ab, cx4ac⟩ := x4a.c3; obtain ⟨fx4aa, fx4ab, fx4ac⟩ := x4a.f3))
  have bw6 := bw5.trans (q6.mono bw5.size)
  clear lx1aa lx1ab lx1ac lx1ad cx4aa fx4aa cx4ab fx4ab cx4ac fx4ac lx4aa lx4ab lx4ac lx4ad
  replace x1a := x1a.b q6
  have lw6 := q6.size
  obtain ⟨cx4aa, cx4ab, cx4ac⟩ := x4a.c3
  obtain ⟨fx4aa, fx4ab, fx4ac⟩ := x4a.f3
  go_wp2_with fail
  clear cx4aa fx4aa cx4ab fx4ab cx4ac fx4ac
  have p7 := ((((Kp.refl w6).sb w3.heap.size 0 x4a.box (by decide) (.bool b6)).sb w3.heap.size 1 (x4a.box.set ⟨w3.heap.size, 0, none⟩ (.bool b6)) (by decide) (.slice A6 n6 c6)).sb w3.heap.size 2 ((x4a.box.set ⟨w3.heap.size, 0, none⟩ (.bool b6)).set ⟨w3.heap.size, 1, none⟩ (.slice A6 n6 c6)) (by decide) (.slice A'6 n'6 c'6))
  have bw7 := (((bw6.sc w3.heap.size 0 (by omega) (.bool b6)).sc w3.heap.size 1 (by omega) (.slice A6 n6 c6)).sc w3.heap.size 2 (by omega) (.slice A'6 n'6 c'6))
  replace x1a := (((x1a.fr w3.heap.size 0 (by omega) (.bool b6)).fr w3.heap.size 1 (by omega) (.slice A6 n6 c6)).fr w3.heap.size 2 (by omega) (.slice A'6 n'6 c'6))
  replace x4a := (((x4a.set_at 0 (.bool b6) #[.bool b6, .slice A3 n3 c3, .slice A'3 n'3 c'3] (by simp)).set_at 1 (.slice A6 n6 c6) #[.bool b6, .slice A6 n6 c6, .slice A'3 n'3 c'3] (by simp)).set_at 2 (.slice A'6 n'6 c'6) #[.bool b6, .slice A6 n6 c6, .slice A'6 n'6 c'6] (by simp))
  have lw7 : w6.heap.size + 0 ≤ (((w6.setCell ⟨w3.heap.size, 0, none⟩ (.bool b6)).setCell ⟨w3.heap.size, 1, none⟩ (.slice A6 n6 c6)).setCell ⟨w3.heap.size, 2, none⟩ (.slice A'6 n'6 c'6)).heap.size := by simp
  generalize hE7 : (((w6.setCell ⟨w3.heap.size, 0, none⟩ (.bool b6)).setCell ⟨w3.heap.size, 1, none⟩ (.slice A6 n6 c6)).setCell ⟨w3.heap.size, 2, none⟩ (.slice A'6 n'6 c'6)) = w7 at p7 bw7 lw7 x1a x4a ⊢
  clear hE7
  replace h3 := h3.keep p7
  replace h6 := h6.keep p7
  clear bw6
  have hst9 := div_one ((decVal (D ++ E) : Nat) : Int)
  go_loopw [8] (fun iv wr => ∃ (j : Nat) (bo : Bool) (Ao : Option Addr) (no co : Nat) (Do : Option Addr) (mo eo : Nat), iv = .int .i64 (j : Nat) ∧ D.length + 1 ≤ j ∧ j ≤ s.length ∧ QV wr bo Ao no co Do mo eo (tenQ (decVal (D ++ E)) (j - (D.length + 1))) (181 + (j - (D.length + 1))) ∧ Kp w7 wr ∧ Below w.heap.size w wr ∧ w7.heap.size ≤ wr.heap.size ∧ Blk wr w.heap.size 39 #[.bool false, .slice none 0 0, .slice none 0 0] ∧ Blk wr w3.heap.size 39 #[.bool bo, .slice Ao no co, .slice Do mo eo]) (fun iv _ => s.length - (intOf iv).toNat)
  case atStart => exact ⟨D.length + 1, b6, A6, n6, c6, A'6, n'6, c'6, rfl, Nat.le_refl _, by omega, by rw [Nat.sub_self]; unfold tenQ; rw [← hst9]; exact h6, Kp.refl _, bw7, Nat.le_refl _, x1a, x4a⟩
  case round =>
    clear x1a
    clear x4a
    obtain ⟨j, bo, Ao, no, co, Do, mo, eo, rfl, hj, hj2, ho, hkp, hbw, hlw, x1a, x4a⟩ := hrel
    replace h3 := h3.keep hkp
    replace h6 := h6.keep hkp
    obtain ⟨S, hS⟩ : ∃ S, 181 + (j - (D.length + 1)) = S := ⟨_, rfl⟩
    have hS2 : 1 ≤ S ∧ S ≤ 300 := by omega
    by_cases hlt : j < s.length
    · have hi1 : ((j : Int) < (s.length : Int)) = True := by simp; omega
      have hlts : j < s.length := hlt
      have hq : tenQ (decVal (D ++ E)) (j - (D.length + 1)) / ((10 : Int) : Rat) = tenQ (decVal (D ++ E)) (j - (D.length + 1) + 1) := div_ten _ _
      rw [show j - (D.length + 1) + 1 = j + 1 - (D.length + 1) by omega] at hq
      obtain ⟨v, hv⟩ : ∃ v : Rat, tenQ (decVal (D ++ E)) (j - (D.length + 1)) = v := ⟨_, rfl⟩
      rw [hv] at ho hq
      rw [hS] at ho
      have HQ := Lib.hid hq
      have HSS := Lib.hid hS
      clear hq hv hS hlt
      obtain ⟨cx4aa, cx4ab, cx4ac⟩ := x4a.c3
      obtain ⟨lx4aa, lx4ab, lx4ac, lx4ad⟩ := lts0 x4a.lt
      go_wp2_with fail
      refine wp_region_lin (B := w.heap.size) (fr := fun xf => ⟨List.toArray (strV s :: undef :: .pointer (some ⟨w.heap.size, 0, none⟩) :: .int .i64 0 :: .bool false :: .int .i64 (D.length : Nat) :: .pointer (some ⟨w3.heap.size, 0, none⟩) :: undef :: .int .i64 (j : Nat) :: strV s :: .int .i64 (s.length : Nat) :: .bool false :: undef :: strV s :: .int .i64 (s.length : Nat) :: .bool false :: .bool false :: strV s :: .int .i64 (s.length : Nat) :: strV s :: .int .i64 (s.length : Nat) :: .bool false :: .bool false :: undef :: strV s :: .int .u8 (c0.toNat : Nat) :: .bool false :: .bool false :: undef :: undef :: strV s :: .int .i64 (D.length : Nat) :: strV s :: .int .i64 (D.length : Nat) :: .string ⟨D.toArray⟩ :: .agg #[.bool b3, .slice A3 n3 c3, .slice A'3 n'3 c'3] :: strV s :: .int .i64 (D.length : Nat) :: .int .u8 46 :: .bool false :: undef :: undef :: undef :: undef :: undef :: undef :: undef :: undef :: undef :: undef :: undef :: undef :: undef :: undef :: undef :: strV s :: .int .i64 (D.length : Nat) :: .int .u8 46 :: .bool true :: strV s :: .int .i64 (D.length : Nat) :: .string ⟨D.toArray⟩ :: strV s :: .int .i64 (D.length : Nat) :: .int .i64 (D.length + 1) :: .string ⟨E.toArray⟩ :: .string ⟨(D ++ E).toArray⟩ :: .agg #[.bool b6, .slice A6 n6 c6, .slice A'6 n'6 c'6] :: .int .i64 (D.length : Nat) :: .int .i64 (D.length + 1) :: .int .i64 (j : Nat) :: strV s :: .int .i64 (s.length : Nat) :: .bool true :: u74 :: u75 :: xf 3 :: xf 0 :: xf 1 :: xf 2 :: xf 4 :: xf 5 :: undef :: undef :: undef :: undef :: []), []⟩) (R := fun ri => List.getD ((PEq (.agg #[.bool bo, .slice Ao no co, .slice Do mo eo])) :: (VQ (((10 : Int) : Rat)) (1)) :: (VQe (.int .i64 0) ((v) / (((10 : Int) : Rat))) ((S) + (1))) :: (VQe (.int .i64 0) ((v) / (((10 : Int) : Rat))) ((S) + (1))) :: (VQ ((v) / (((10 : Int) : Rat))) ((S) + (1))) :: (PEq (.int .i64 0)) :: PAny :: []) ri (fun _ _ => True)) (es := []) (ow := [⟨w.heap.size, 7, 0, 39, #[.bool false, .slice none 0 0, .slice none 0 0], CAny⟩, ⟨w3.heap.size, 6, 0, 39, #[.bool bo, .slice Ao no co, .slice Do mo eo], CQ ((v) / (((10 : Int) : Rat))) ((S) + (1))⟩]) (x0 := (upd (upd (upd (upd (upd (upd (fun _ => undef) 0 (u77)) 1 (u78)) 2 (u79)) 3 (u76)) 4 (u80)) 5 (u81))) (by kernel_rfl)
        (each_of ⟨fun _ _ => rfl, fun _ _ => rfl, fun _ _ => rfl, fun _ _ => rfl, fun _ _ => rfl, fun _ _ => rfl, fun _ _ => rfl, trivial⟩) (each_of (acyc_from _ 0 (by kernel_rfl))) (AllStab.get _ ⟨stEq _, stQ _ _, stQe _ _ _, stQe _ _ _, stQ _ _, stEq _, stAny, trivial⟩)
        (fun _ h => nomatch h) (List.forall_mem_cons.2 ⟨scAny, List.forall_mem_cons.2 ⟨scQ _ _, fun _ h => nomatch h⟩⟩) (fun _ h => nomatch h) hbw.size
        (List.forall_mem_cons.2 ⟨⟨x1a, by show w.heap.size ≤ w.heap.size; omega⟩, List.forall_mem_cons.2 ⟨⟨x4a, by show w.heap.size ≤ w3.heap.size; omega⟩, fun _ h => nomatch h⟩⟩) (ownDist (by simp <;> omega))
        (each_of ⟨?_, ?_, ?_, ?_, ?_, ?_, ?_, trivial⟩) ?_
      · exact .inl ⟨by simp, by simp, fun xf wq hk hbl hd K hK => by
          have y : Blk wq w3.heap.size 39 #[.bool bo, .slice Ao no co, .slice Do mo eo] := hbl _ (List.Mem.tail _ (List.Mem.head _)) (by simp [Region.binds])
          obtain ⟨hcl0, hcl1, hcl2⟩ := y.c3
          (try dsimp only)
          go_simp
          exact hK.out (.agg #[.bool bo, .slice Ao no co, .slice Do mo eo]) _ rfl (brefl _)⟩
      · exact .inl ⟨by simp, by simp, fun xf wq hk hbl hd K hK => by
          (try dsimp only)
          go_simp
          go_at_call 43
          (with_reducible refine (g_of _ (10) ?_ ?_).mono ?_); (first | omega | decide | assumption); (first | omega | decide | assumption); rintro e wr ⟨b9, A9, n9, c9, A'9, n'9, c'9, rfl, h9, hbr⟩
          exact hK.out _ _ ⟨b9, A9, n9, c9, A'9, n'9, c'9, rfl, h9⟩ hbr⟩
      · exact .inl ⟨by simp, by simp, fun xf wq hk hbl hd K hK => by
          have dq0 : xf 0 = .agg #[.bool bo, .slice Ao no co, .slice Do mo eo] := hd ⟨0, .data⟩ (by simp) rfl
          obtain ⟨b9, A9, n9, c9, A'9, n'9, c'9, dq1, h9⟩ : VQ (((10 : Int) : Rat)) (1) (xf 1) wq := hd ⟨1, .data⟩ (by simp) rfl
          (try dsimp only); (try simp only [dq0, dq1])
          go_simp
          go_at_call 42
          (with_reducible refine (g_div _ bo Ao no co Do mo eo (v) (S) ?_ b9 A9 n9 c9 A'9 n'9 c'9 (((10 : Int) : Rat)) (1) ?_ ?_ ?_ ?_ ?_ ?_).mono ?_); (exact (ho.keep hk).qz); (exact h9.qz); (omega); (omega); (omega); (omega); (exact HT.out); rintro e wr ⟨b10, A10, n10, c10, A'10, n'10, c'10, rfl, h10, hbr⟩
          have hz := hK.out _ _ ⟨b10, A10, n10, c10, A'10, n'10, c'10, rfl, h10⟩ hbr
          simp only [dq0, dq1] at hz
          exact hz⟩
      · exact .inl ⟨by simp, by simp, fun xf wq hk hbl hd K hK => by
          obtain ⟨b10, A10, n10, c10, A'10, n'10, c'10, dq2, h10⟩ : VQe (.int .i64 0) ((v) / (((10 : Int) : Rat))) ((S) + (1)) (xf 2) wq := hd ⟨2, .data⟩ (by simp) rfl
          (try dsimp only); (try simp only [dq2])
          go_simp
          have hz := hK.out _ _ ⟨b10, A10, n10, c10, A'10, n'10, c'10, rfl, h10⟩ (brefl _)
          simp only [dq2] at hz
          exact hz⟩
      · exact .inl ⟨by simp, by simp, fun xf wq hk hbl hd K hK => by
          obtain ⟨b10, A10, n10, c10, A'10, n'10, c'10, dq3, h10⟩ : VQe (.int .i64 0) ((v) / (((10 : Int) : Rat))) ((S) + (1)) (xf 3) wq := hd ⟨3, .data⟩ (by simp) rfl
          (try dsimp only); (try simp only [dq3])
          go_simp
          have hz := hK.out _ _ ⟨b10, A10, n10, c10, A'10, n'10, c'10, rfl, h10⟩ (brefl _)
          simp only [dq3] at hz
          exact hz⟩
      · exact .inl ⟨by simp, by simp, fun xf wq hk hbl hd K hK => by
          obtain ⟨b10, A10, n10, c10, A'10, n'10, c'10, dq3, h10⟩ : VQe (.int .i64 0) ((v) / (((10 : Int) : Rat))) ((S) + (1)) (xf 3) wq := hd ⟨3, .data⟩ (by simp) rfl
          (try dsimp only); (try simp only [dq3])
          go_simp
          have hz := hK.out _ _ rfl (brefl _)
          simp only [dq3] at hz
          exact hz⟩
      · exact .inr (.inr (.inr ⟨⟨w3.heap.size, 6, 0, 39, #[.bool bo, .slice Ao no co, .slice Do mo eo], CQ ((v) / (((10 : Int) : Rat))) ((S) + (1))⟩, by simp, rfl, by simp, by simp, (show KT 39 = false by decide), fun _ _ => True.intro, fun xf wq hblk hd => by
          obtain ⟨b10, A10, n10, c10, A'10, n'10, c'10, dq4, h10⟩ : VQ ((v) / (((10 : Int) : Rat))) ((S) + (1)) (xf 4) wq := hd ⟨4, .data⟩ (by simp) rfl
          dsimp only at hblk
          refine ⟨[.bool b10, .slice A10 n10 c10, .slice A'10 n'10 c'10], fun w' hk => ⟨b10, A10, n10, c10, A'10, n'10, c'10, rfl, h10.keep hk⟩, fun K hK => ?_⟩
          have hc0 : wq.cell? ⟨w3.heap.size, 0, none⟩ = some (.bool bo) := hblk.cell 0
          have hc1 : wq.cell? ⟨w3.heap.size, 1, none⟩ = some (.slice Ao no co) := hblk.cell 1
          have hc2 : wq.cell? ⟨w3.heap.size, 2, none⟩ = some (.slice Do mo eo) := hblk.cell 2
          have hf0 : wq.frozen? ⟨w3.heap.size, 0, none⟩ = false := hblk.frozen 0
          have hf1 : wq.frozen? ⟨w3.heap.size, 1, none⟩ = false := hblk.frozen 1
          have hf2 : wq.frozen? ⟨w3.heap.size, 2, none⟩ = false := hblk.frozen 2
          (try dsimp only)
          simp only [dq4]
          go_simp
          have hz := hK.out undef
          simp only [dq4] at hz
          exact hz⟩))
      clear cx4aa cx4ab cx4ac lx4aa lx4ab lx4ac lx4ad
      intro y8 w8 kq8 hbl8 lw8 how hrr hfl hds
      replace h3 := h3.keep kq8
      replace ho := ho.keep kq8
      replace hkp := hkp.trans kq8
      obtain ⟨_, z8_0, ez, _⟩ := how _ (List.Mem.head _)
      obtain rfl := ez (by simp)
      dsimp only at z8_0
      obtain ⟨_, z8_1, _, ez⟩ := how _ (List.Mem.tail _ (List.Mem.head _))
      obtain ⟨b10, A10, n10, c10, A'10, n'10, c'10, rfl, h10⟩ := ez (by simp)
      dsimp only at z8_1
      (try dsimp only)
      clear hrr hfl how hds 
      clear x1a x4a
      have bw8 := hbw.trans hbl8
      have cz8_1_0 : w8.cell? ⟨w3.heap.size, 0, none⟩ = some (.bool b10) := z8_1.cell 0
      have cz8_1_1 : w8.cell? ⟨w3.heap.size, 1, none⟩ = some (.slice A10 n10 c10) := z8_1.cell 1
      have cz8_1_2 : w8.cell? ⟨w3.heap.size, 2, none⟩ = some (.slice A'10 n'10 c'10) := z8_1.cell 2
      obtain ⟨lz8_1_0, lz8_1_1, lz8_1_2, lz8_1_3⟩ := lts0 z8_1.lt
      go_wp2_with fail
      clear cz8_1_0 cz8_1_1 cz8_1_2 lz8_1_0 lz8_1_1 lz8_1_2 lz8_1_3
      go_roundw
      case rel => exact ⟨j + 1, b10, A10, n10, c10, A'10, n'10, c'10, by go_num, by omega, by omega, by rw [← HQ.out]; exact h10.mono (by have := HSS.out; omega), hkp, bw8, by omega, z8_0, z8_1⟩
      case measure => simp [intOf]; omega
    · have hi1 : ((j : Int) < (s.length : Int)) = False := by simp; omega
      obtain rfl : j = s.length := by omega
      have hjE : s.length - (D.length + 1) = E.length := by omega
      rw [hjE, HZN.out] at ho
      unfold tenQ at ho
      rw [hjE] at hS
      obtain ⟨v, hv⟩ : ∃ v : Rat, Rat.divInt ((zn : Nat) : Int) ((10 ^ E.length : Nat) : Int) = v := ⟨_, rfl⟩
      rw [hv] at ho
      rw [hS] at ho
      have HV := Lib.hid hv
      clear hv hS
      obtain ⟨cx1aa, cx1ab, cx1ac⟩ := x1a.c3
      obtain ⟨fx1aa, fx1ab, fx1ac⟩ := x1a.f3
      obtain ⟨lx1aa, lx1ab, lx1ac, lx1ad⟩ := lts0 x1a.lt
      obtain ⟨cx4aa, cx4ab, cx4ac⟩ := x4a.c3
      obtain ⟨lx4aa, lx4ab, lx4ac, lx4ad⟩ := lts0 x4a.lt
      go_wp2_with fail
      refine bodyPost_ret (v := .tuple #[.agg #[.bool bo, .slice Ao no co, .slice Do mo eo], .int .i64 0]) (by simp [results, Tryz.results17, go_sem, *] <;> first | rfl | exact ⟨rfl, rfl⟩) rfl ?_
      have hval : v = Rat.divInt (sgI false ((zn : Nat) : Int)) ((10 ^ E.length : Nat) : Int) := by rw [← HV.out]; rfl
      exact ⟨_, _, _, _, _, _, _, rfl, by rw [← hval]; exact ((ho).keep ((((Kp.refl wr).sb w.heap.size 0 x1a.box (by decide) (.bool bo)).sb w.heap.size 1 (x1a.box.set ⟨w.heap.size, 0, none⟩ (.bool bo)) (by decide) (.slice Ao no co)).sb w.heap.size 2 ((x1a.box.set ⟨w.heap.size, 0, none⟩ (.bool bo)).set ⟨w.heap.size, 1, none⟩ (.slice Ao no co)) (by decide) (.slice Do mo eo))).mono (by omega), (((hbw.sc w.heap.size 0 (by omega) (.bool bo)).sc w.heap.size 1 (by omega) (.slice Ao no co)).sc w.heap.size 2 (by omega) (.slice Do mo eo))⟩
theorem r_value_dot_t (w : World) (s D E : List UInt8) (h : s.length ≤ 60) (hn : numN s = s.length) (hD : isD D) (hE : isD E) (hs : s = sg true (D ++ 46 :: E)) : Calls Tryz.prog 17 #[strV s] w (RetFe w (.int .i64 0) (Rat.divInt (sgI true (decVal (D ++ E))) ((10 ^ E.length : Nat) : Int)) 500) := by
  have hszs := size_v s
  have hlen : ((60 : Int) < (s.length : Int)) = False := eq_false (by omega)
  have he45 := atB_sg true (r := (46 :: E)) hD
  skip
  rw [← hs] at he45
  obtain ⟨B, hB⟩ : ∃ B : List UInt8, (D ++ 46 :: E) = B := ⟨_, rfl⟩
  have hBl : B.length = D.length + (1 + E.length) := by rw [← hB]; simp only [List.length_append, List.length_cons]; omega
  have hDl : 0 < D.length := List.length_pos_iff.2 hD.1
  have hdg : digN B = D.length := by rw [← hB]; exact digN_front hD.2 (fun c t e => by injection e with e _; rw [← e]; rfl)
  have hat : atB B D.length = 46 := by rw [← hB]; exact atB_mid D E 46
  have e2 : (⟨B.toArray⟩ : ByteArray).extract 0 D.length = ⟨D.toArray⟩ := by rw [ext_v, List.drop_zero, Nat.sub_zero, ← hB]; simp
  rw [hB] at hs
  have hszB := size_v B
  have hEl : 0 < E.length := List.length_pos_iff.2 hE.1
  have hsl1 : s.length = B.length + 1 := by rw [hs]; rfl
  obtain ⟨c0, hc0⟩ : ∃ c, atB s 0 = c := ⟨_, rfl⟩
  have hlt0 : 0 < s.length := by omega
  have hget : ∀ h, (⟨s.toArray⟩ : ByteArray)[0]'h = c0 := fun h => by rw [← hc0]; exact (atB_lt hlt0).symm
  rw [hc0] at he45
  have hn0 : ((s.length : Int) == 0) = false := beq_eq_false_iff_ne.2 (by omega)
  have hn00 : ((s.length : Int) = 0) = False := eq_false (by omega)
  have hsl : s.length < 4611686018427387904 := by omega
  have hBsl : B.length < 4611686018427387904 := by omega
  have hDB : (D.length : Int) ≤ (B.length : Int) := by omega
  have hD0 : (0 : Int) ≤ (D.length : Int) := by omega
  have e1 : (⟨s.toArray⟩ : ByteArray).extract 1 s.length = ⟨B.toArray⟩ := by
    rw [ext_v, hs]; simp [sg]
  have hs1 : (1 : Int) ≤ (s.length : Int) := by omega
  have hw1 : IntKind.i64.wrap ((D.length : Int) + 1) = (D.length : Int) + 1 := IntWalk.i64_in _ ⟨by omega, by omega⟩
  have ht1 : ((D.length : Int) + 1).toNat = D.length + 1 := by omega
  have hD1 : (D.length : Int) + 1 ≤ (B.length : Int) := by omega
  have hD2 : (0 : Int) ≤ (D.length : Int) + 1 := by omega
  have e3 : (⟨B.toArray⟩ : ByteArray).extract (D.length + 1) B.length = ⟨E.toArray⟩ := by
    rw [ext_v, ← hB]; simp; exact List.take_of_length_le (by omega)
  have ha1 := app_v D E
  have hk1 : (9223372036854775807 < D.length + E.length) = False := eq_false (by omega)
  have hDE : (D ++ E).all isDg = true ∧ (D ++ E).length ≤ 60 := ⟨by rw [List.all_append, hD.2, hE.2]; rfl, by rw [List.length_append]; omega⟩
  have HDE := Lib.hid hDE
  clear hDE
  have HT := Lib.hid (show ((10 : Int) : Rat) ≠ 0 by decide)
  have hDl6 : D.length ≤ 60 := by omega
  have hEl6 : E.length ≤ 60 := by omega
  obtain ⟨zn, hzn⟩ : ∃ zn : Nat, decVal (D ++ E) = zn := ⟨_, rfl⟩
  rw [hzn]
  have HZN := Lib.hid hzn
  have HD := Lib.hid hD.2
  have HE := Lib.hid hE.2
  have HDG := Lib.hid hdg
  have HAT := Lib.hid hat
  have HN := Lib.hid hn
  clear hn hD hB hdg hat hc0 hzn hs hE
  have hBl1 : B.length ≤ D.length + (1 + E.length) := by omega
  have hBl2 : D.length + (1 + E.length) ≤ B.length := by omega
  have hS1 : s.length ≤ B.length + 1 := by omega
  clear hBl hsl1
  go_enter Tryz.func17, Tryz.ntmps17
  go_wp2_with fail
  (with_reducible refine (r_numberEnd _ (s) (0) 0 rfl (Nat.zero_le _) hsl (s.length : Nat) (by rw [List.drop_zero, Nat.zero_add, HN.out])).mono ?_); rintro e w1 ⟨rfl, hb1⟩
  have q1 := ((Below.refl _ _).alloc (Nat.le_refl _) _).trans (hb1.mono (by simp))
  have x1a : Blk w1 w.heap.size 39 #[.bool false, .slice none 0 0, .slice none 0 0] := (blkAt _ _ _ (by simp)).below hb1 (by simp)
  have bw1 := (brefl w).trans (q1.mono (brefl w).size)
  have lw1 : w.heap.size + 1 ≤ w1.heap.size := by have := hb1.size; simp at this; omega
  clear q1
  go_wp2_with fail
  (with_reducible refine (r_digitsEnd_x _ (B) (0) 0 rfl (Nat.zero_le _) hBsl (D.length : Nat) (by rw [List.drop_zero, Nat.zero_add, HDG.out])).mono ?_); rintro e w2 ⟨rfl, q2⟩
  replace x1a := x1a.b q2
  have bw2 := bw1.trans (q2.mono bw1.size)
  have lw2 := q2.size
  clear q2 bw1
  go_wp2_with fail
  (with_reducible refine (r_whole _ (D) HD.out hDl6).mono ?_); rintro e w3 ⟨b3, A3, n3, c3, A'3, n'3, c'3, rfl, h3, q3⟩
  replace x1a := x1a.b q3
  have bw3 := bw2.trans (q3.mono bw2.size)
  have lw3 := q3.size
  clear q3 bw2
  go_wp2_with fail
  (with_reducible refine (r_at_x _ (B) ((D.length : Nat)) D.length rfl 46 HAT.out).mono ?_); rintro e w4 ⟨rfl, hb4⟩
  have q4 := ((Below.refl _ _).alloc (Nat.le_refl _) _).trans (hb4.mono (by simp))
  replace h3 := h3.belw q4
  replace x1a := x1a.b q4
  have x4a : Blk w4 w3.heap.size 39 #[.bool b3, .slice A3 n3 c3, .slice A'3 n'3 c'3] := (blkAt _ _ _ (by simp)).below hb4 (by simp)
  have bw4 := bw3.trans (q4.mono bw3.size)
  have lw4 : w3.heap.size + 1 ≤ w4.heap.size := by have := hb4.size; simp at this; omega
  clear q4 bw3
  go_wp2_with fail
  (with_reducible refine (r_at_x _ (B) ((D.length : Nat)) D.length rfl 46 HAT.out).mono ?_); rintro e w5 ⟨rfl, q5⟩
  replace h3 := h3.belw q5
  replace x1a := x1a.b q5
  replace x4a := x4a.b q5
  have bw5 := bw4.trans (q5.mono bw4.size)
  have lw5 := q5.size
  clear q5 bw4
  obtain ⟨lx1aa, lx1ab, lx1ac, lx1ad⟩ := lts0 x1a.lt
  obtain ⟨cx4aa, cx4ab, cx4ac⟩ := x4a.c3
  obtain ⟨fx4aa, fx4ab, fx4ac⟩ := x4a.f3
  obtain ⟨lx4aa, lx4ab, lx4ac, lx4ad⟩ := lts0 x4a.lt
  go_wp2_with fail
  have nfx1_0_0 : ¬ w.heap.size = w3.heap.size := by omega
  have nex1_0_0 : ¬ w.heap.size = w3.heap.size := by omega
  go_region_held3 (fun w' => SeesX w5.heap.size (w3.heap.size) w5 w') (first | with_reducible exact SeesX.of (Nat.le_refl _) (by assumption) | with_reducible exact SeesX.of (Nat.le_refl _) (brefl _).drew | with_reducible exact (SeesX.set (SeesX.set (SeesX.set (SeesX.of (Nat.le_refl _) (by assumption))))) | with_reducible exact (SeesX.set (SeesX.set (SeesX.of (Nat.le_refl _) (by assumption)))) | with_reducible exact (SeesX.set (SeesX.of (Nat.le_refl _) (by assumption))) | exact SeesX.of (Nat.le_refl _) (below_drewN (brefl _) 1) | exact SeesX.of (Nat.le_refl _) (below_drewN (by assumption) _))
    (first
      | (go_at_call 39; (with_reducible refine (r_whole _ ((D ++ E)) HDE.out.1 HDE.out.2).mono ?_); rintro e w6 ⟨b6, A6, n6, c6, A'6, n'6, c'6, rfl, h6, hb6⟩; replace hb6 := bnext (below_drewN (brefl _) 1) hb6; have q6 : Below w5.heap.size w5 w6 := bnext (brefl w5) hb6; replace h3 := h3.belw hb6; have x4a := x4a.b q6; obtain ⟨cx4aa, cx4ab, cx4ac⟩ := x4a.c3; obtain ⟨fx4aa, fx4ab, fx4ac⟩ := x4a.f3))
  have bw6 := bw5.trans (q6.mono bw5.size)
  clear lx1aa lx1ab lx1ac lx1ad cx4aa fx4aa cx4ab fx4ab cx4ac fx4ac lx4aa lx4ab lx4ac lx4ad
  replace x1a := x1a.b q6
  have lw6 := q6.size
  obtain ⟨cx4aa, cx4ab, cx4ac⟩ := x4a.c3
  obtain ⟨fx4aa, fx4ab, fx4ac⟩ := x4a.f3
  go_wp2_with fail
  clear cx4aa fx4aa cx4ab fx4ab cx4ac fx4ac
  have p7 := ((((Kp.refl w6).sb w3.heap.size 0 x4a.box (by decide) (.bool b6)).sb w3.heap.size 1 (x4a.box.set ⟨w3.heap.size, 0, none⟩ (.bool b6)) (by decide) (.slice A6 n6 c6)).sb w3.heap.size 2 ((x4a.box.set ⟨w3.heap.size, 0, none⟩ (.bool b6)).set ⟨w3.heap.size, 1, none⟩ (.slice A6 n6 c6)) (by decide) (.slice A'6 n'6 c'6))
  have bw7 := (((bw6.sc w3.heap.size 0 (by omega) (.bool b6)).sc w3.heap.size 1 (by omega) (.slice A6 n6 c6)).sc w3.heap.size 2 (by omega) (.slice A'6 n'6 c'6))
  replace x1a := (((x1a.fr w3.heap.size 0 (by omega) (.bool b6)).fr w3.heap.size 1 (by omega) (.slice A6 n6 c6)).fr w3.heap.size 2 (by omega) (.slice A'6 n'6 c'6))
  replace x4a := (((x4a.set_at 0 (.bool b6) #[.bool b6, .slice A3 n3 c3, .slice A'3 n'3 c'3] (by simp)).set_at 1 (.slice A6 n6 c6) #[.bool b6, .slice A6 n6 c6, .slice A'3 n'3 c'3] (by simp)).set_at 2 (.slice A'6 n'6 c'6) #[.bool b6, .slice A6 n6 c6, .slice A'6 n'6 c'6] (by simp))
  have lw7 : w6.heap.size + 0 ≤ (((w6.setCell ⟨w3.heap.size, 0, none⟩ (.bool b6)).setCell ⟨w3.heap.size, 1, none⟩ (.slice A6 n6 c6)).setCell ⟨w3.heap.size, 2, none⟩ (.slice A'6 n'6 c'6)).heap.size := by simp
  generalize hE7 : (((w6.setCell ⟨w3.heap.size, 0, none⟩ (.bool b6)).setCell ⟨w3.heap.size, 1, none⟩ (.slice A6 n6 c6)).setCell ⟨w3.heap.size, 2, none⟩ (.slice A'6 n'6 c'6)) = w7 at p7 bw7 lw7 x1a x4a ⊢
  clear hE7
  replace h3 := h3.keep p7
  replace h6 := h6.keep p7
  clear bw6
  have hst9 := div_one ((decVal (D ++ E) : Nat) : Int)
  go_loopw [8] (fun iv wr => ∃ (j : Nat) (bo : Bool) (Ao : Option Addr) (no co : Nat) (Do : Option Addr) (mo eo : Nat), iv = .int .i64 (j : Nat) ∧ D.length + 1 ≤ j ∧ j ≤ B.length ∧ QV wr bo Ao no co Do mo eo (tenQ (decVal (D ++ E)) (j - (D.length + 1))) (181 + (j - (D.length + 1))) ∧ Kp w7 wr ∧ Below w.heap.size w wr ∧ w7.heap.size ≤ wr.heap.size ∧ Blk wr w.heap.size 39 #[.bool false, .slice none 0 0, .slice none 0 0] ∧ Blk wr w3.heap.size 39 #[.bool bo, .slice Ao no co, .slice Do mo eo]) (fun iv _ => B.length - (intOf iv).toNat)
  case atStart => exact ⟨D.length + 1, b6, A6, n6, c6, A'6, n'6, c'6, rfl, Nat.le_refl _, by omega, by rw [Nat.sub_self]; unfold tenQ; rw [← hst9]; exact h6, Kp.refl _, bw7, Nat.le_refl _, x1a, x4a⟩
  case round =>
    clear x1a
    clear x4a
    obtain ⟨j, bo, Ao, no, co, Do, mo, eo, rfl, hj, hj2, ho, hkp, hbw, hlw, x1a, x4a⟩ := hrel
    replace h3 := h3.keep hkp
    replace h6 := h6.keep hkp
    obtain ⟨S, hS⟩ : ∃ S, 181 + (j - (D.length + 1)) = S := ⟨_, rfl⟩
    have hS2 : 1 ≤ S ∧ S ≤ 300 := by omega
    by_cases hlt : j < B.length
    · have hi1 : ((j : Int) < (B.length : Int)) = True := by simp; omega
      have hlts : j < B.length := hlt
      have hq : tenQ (decVal (D ++ E)) (j - (D.length + 1)) / ((10 : Int) : Rat) = tenQ (decVal (D ++ E)) (j - (D.length + 1) + 1) := div_ten _ _
      rw [show j - (D.length + 1) + 1 = j + 1 - (D.length + 1) by omega] at hq
      obtain ⟨v, hv⟩ : ∃ v : Rat, tenQ (decVal (D ++ E)) (j - (D.length + 1)) = v := ⟨_, rfl⟩
      rw [hv] at ho hq
      rw [hS] at ho
      have HQ := Lib.hid hq
      have HSS := Lib.hid hS
      clear hq hv hS hlt
      obtain ⟨cx4aa, cx4ab, cx4ac⟩ := x4a.c3
      obtain ⟨lx4aa, lx4ab, lx4ac, lx4ad⟩ := lts0 x4a.lt
      go_wp2_with fail
      refine wp_region_lin (B := w.heap.size) (fr := fun xf => ⟨List.toArray (.string ⟨B.toArray⟩ :: undef :: .pointer (some ⟨w.heap.size, 0, none⟩) :: .int .i64 0 :: .bool true :: .int .i64 (D.length : Nat) :: .pointer (some ⟨w3.heap.size, 0, none⟩) :: undef :: .int .i64 (j : Nat) :: strV s :: .int .i64 (s.length : Nat) :: .bool false :: undef :: strV s :: .int .i64 (s.length : Nat) :: .bool false :: .bool false :: strV s :: .int .i64 (s.length : Nat) :: strV s :: .int .i64 (s.length : Nat) :: .bool false :: .bool false :: undef :: strV s :: .int .u8 (c0.toNat : Nat) :: .bool true :: .bool true :: strV s :: .string ⟨B.toArray⟩ :: .string ⟨B.toArray⟩ :: .int .i64 (D.length : Nat) :: .string ⟨B.toArray⟩ :: .int .i64 (D.length : Nat) :: .string ⟨D.toArray⟩ :: .agg #[.bool b3, .slice A3 n3 c3, .slice A'3 n'3 c'3] :: .string ⟨B.toArray⟩ :: .int .i64 (D.length : Nat) :: .int .u8 46 :: .bool false :: undef :: undef :: undef :: undef :: undef :: undef :: undef :: undef :: undef :: undef :: undef :: undef :: undef :: undef :: undef :: .string ⟨B.toArray⟩ :: .int .i64 (D.length : Nat) :: .int .u8 46 :: .bool true :: .string ⟨B.toArray⟩ :: .int .i64 (D.length : Nat) :: .string ⟨D.toArray⟩ :: .string ⟨B.toArray⟩ :: .int .i64 (D.length : Nat) :: .int .i64 (D.length + 1) :: .string ⟨E.toArray⟩ :: .string ⟨(D ++ E).toArray⟩ :: .agg #[.bool b6, .slice A6 n6 c6, .slice A'6 n'6 c'6] :: .int .i64 (D.length : Nat) :: .int .i64 (D.length + 1) :: .int .i64 (j : Nat) :: .string ⟨B.toArray⟩ :: .int .i64 (B.length : Nat) :: .bool true :: u74 :: u75 :: xf 3 :: xf 0 :: xf 1 :: xf 2 :: xf 4 :: xf 5 :: undef :: undef :: undef :: undef :: []), []⟩) (R := fun ri => List.getD ((PEq (.agg #[.bool bo, .slice Ao no co, .slice Do mo eo])) :: (VQ (((10 : Int) : Rat)) (1)) :: (VQe (.int .i64 0) ((v) / (((10 : Int) : Rat))) ((S) + (1))) :: (VQe (.int .i64 0) ((v) / (((10 : Int) : Rat))) ((S) + (1))) :: (VQ ((v) / (((10 : Int) : Rat))) ((S) + (1))) :: (PEq (.int .i64 0)) :: PAny :: []) ri (fun _ _ => True)) (es := []) (ow := [⟨w.heap.size, 7, 0, 39, #[.bool false, .slice none 0 0, .slice none 0 0], CAny⟩, ⟨w3.heap.size, 6, 0, 39, #[.bool bo, .slice Ao no co, .slice Do mo eo], CQ ((v) / (((10 : Int) : Rat))) ((S) + (1))⟩]) (x0 := (upd (upd (upd (upd (upd (upd (fun _ => undef) 0 (u77)) 1 (u78)) 2 (u79)) 3 (u76)) 4 (u80)) 5 (u81))) (by kernel_rfl)
        (each_of ⟨fun _ _ => rfl, fun _ _ => rfl, fun _ _ => rfl, fun _ _ => rfl, fun _ _ => rfl, fun _ _ => rfl, fun _ _ => rfl, trivial⟩) (each_of (acyc_from _ 0 (by kernel_rfl))) (AllStab.get _ ⟨stEq _, stQ _ _, stQe _ _ _, stQe _ _ _, stQ _ _, stEq _, stAny, trivial⟩)
        (fun _ h => nomatch h) (List.forall_mem_cons.2 ⟨scAny, List.forall_mem_cons.2 ⟨scQ _ _, fun _ h => nomatch h⟩⟩) (fun _ h => nomatch h) hbw.size
        (List.forall_mem_cons.2 ⟨⟨x1a, by show w.heap.size ≤ w.heap.size; omega⟩, List.forall_mem_cons.2 ⟨⟨x4a, by show w.heap.size ≤ w3.heap.size; omega⟩, fun _ h => nomatch h⟩⟩) (ownDist (by simp <;> omega))
        (each_of ⟨?_, ?_, ?_, ?_, ?_, ?_, ?_, trivial⟩) ?_
      · exact .inl ⟨by simp, by simp, fun xf wq hk hbl hd K hK => by
          have y : Blk wq w3.heap.size 39 #[.bool bo, .slice Ao no co, .slice Do mo eo] := hbl _ (List.Mem.tail _ (List.Mem.head _)) (by simp [Region.binds])
          obtain ⟨hcl0, hcl1, hcl2⟩ := y.c3
          (try dsimp only)
          go_simp
          exact hK.out (.agg #[.bool bo, .slice Ao no co, .slice Do mo eo]) _ rfl (brefl _)⟩
      · exact .inl ⟨by simp, by simp, fun xf wq hk hbl hd K hK => by
          (try dsimp only)
          go_simp
          go_at_call 43
          (with_reducible refine (g_of _ (10) ?_ ?_).mono ?_); (first | omega | decide | assumption); (first | omega | decide | assumption); rintro e wr ⟨b9, A9, n9, c9, A'9, n'9, c'9, rfl, h9, hbr⟩
          exact hK.out _ _ ⟨b9, A9, n9, c9, A'9, n'9, c'9, rfl, h9⟩ hbr⟩
      · exact .inl ⟨by simp, by simp, fun xf wq hk hbl hd K hK => by
          have dq0 : xf 0 = .agg #[.bool bo, .slice Ao no co, .slice Do mo eo] := hd ⟨0, .data⟩ (by simp) rfl
          obtain ⟨b9, A9, n9, c9, A'9, n'9, c'9, dq1, h9⟩ : VQ (((10 : Int) : Rat)) (1) (xf 1) wq := hd ⟨1, .data⟩ (by simp) rfl
          (try dsimp only); (try simp only [dq0, dq1])
          go_simp
          go_at_call 42
          (with_reducible refine (g_div _ bo Ao no co Do mo eo (v) (S) ?_ b9 A9 n9 c9 A'9 n'9 c'9 (((10 : Int) : Rat)) (1) ?_ ?_ ?_ ?_ ?_ ?_).mono ?_); (exact (ho.keep hk).qz); (exact h9.qz); (omega); (omega); (omega); (omega); (exact HT.out); rintro e wr ⟨b10, A10, n10, c10, A'10, n'10, c'10, rfl, h10, hbr⟩
          have hz := hK.out _ _ ⟨b10, A10, n10, c10, A'10, n'10, c'10, rfl, h10⟩ hbr
          simp only [dq0, dq1] at hz
          exact hz⟩
      · exact .inl ⟨by simp, by simp, fun xf wq hk hbl hd K hK => by
          obtain ⟨b10, A10, n10, c10, A'10, n'10, c'10, dq2, h10⟩ : VQe (.int .i64 0) ((v) / (((10 : Int) : Rat))) ((S) + (1)) (xf 2) wq := hd ⟨2, .data⟩ (by simp) rfl
          (try dsimp only); (try simp only [dq2])
          go_simp
          have hz := hK.out _ _ ⟨b10, A10, n10, c10, A'10, n'10, c'10, rfl, h10⟩ (brefl _)
          simp only [dq2] at hz
          exact hz⟩
      · exact .inl ⟨by simp, by simp, fun xf wq hk hbl hd K hK => by
          obtain ⟨b10, A10, n10, c10, A'10, n'10, c'10, dq3, h10⟩ : VQe (.int .i64 0) ((v) / (((10 : Int) : Rat))) ((S) + (1)) (xf 3) wq := hd ⟨3, .data⟩ (by simp) rfl
          (try dsimp only); (try simp only [dq3])
          go_simp
          have hz := hK.out _ _ ⟨b10, A10, n10, c10, A'10, n'10, c'10, rfl, h10⟩ (brefl _)
          simp only [dq3] at hz
          exact hz⟩
      · exact .inl ⟨by simp, by simp, fun xf wq hk hbl hd K hK => by
          obtain ⟨b10, A10, n10, c10, A'10, n'10, c'10, dq3, h10⟩ : VQe (.int .i64 0) ((v) / (((10 : Int) : Rat))) ((S) + (1)) (xf 3) wq := hd ⟨3, .data⟩ (by simp) rfl
          (try dsimp only); (try simp only [dq3])
          go_simp
          have hz := hK.out _ _ rfl (brefl _)
          simp only [dq3] at hz
          exact hz⟩
      · exact .inr (.inr (.inr ⟨⟨w3.heap.size, 6, 0, 39, #[.bool bo, .slice Ao no co, .slice Do mo eo], CQ ((v) / (((10 : Int) : Rat))) ((S) + (1))⟩, by simp, rfl, by simp, by simp, (show KT 39 = false by decide), fun _ _ => True.intro, fun xf wq hblk hd => by
          obtain ⟨b10, A10, n10, c10, A'10, n'10, c'10, dq4, h10⟩ : VQ ((v) / (((10 : Int) : Rat))) ((S) + (1)) (xf 4) wq := hd ⟨4, .data⟩ (by simp) rfl
          dsimp only at hblk
          refine ⟨[.bool b10, .slice A10 n10 c10, .slice A'10 n'10 c'10], fun w' hk => ⟨b10, A10, n10, c10, A'10, n'10, c'10, rfl, h10.keep hk⟩, fun K hK => ?_⟩
          have hc0 : wq.cell? ⟨w3.heap.size, 0, none⟩ = some (.bool bo) := hblk.cell 0
          have hc1 : wq.cell? ⟨w3.heap.size, 1, none⟩ = some (.slice Ao no co) := hblk.cell 1
          have hc2 : wq.cell? ⟨w3.heap.size, 2, none⟩ = some (.slice Do mo eo) := hblk.cell 2
          have hf0 : wq.frozen? ⟨w3.heap.size, 0, none⟩ = false := hblk.frozen 0
          have hf1 : wq.frozen? ⟨w3.heap.size, 1, none⟩ = false := hblk.frozen 1
          have hf2 : wq.frozen? ⟨w3.heap.size, 2, none⟩ = false := hblk.frozen 2
          (try dsimp only)
          simp only [dq4]
          go_simp
          have hz := hK.out undef
          simp only [dq4] at hz
          exact hz⟩))
      clear cx4aa cx4ab cx4ac lx4aa lx4ab lx4ac lx4ad
      intro y8 w8 kq8 hbl8 lw8 how hrr hfl hds
      replace h3 := h3.keep kq8
      replace ho := ho.keep kq8
      replace hkp := hkp.trans kq8
      obtain ⟨_, z8_0, ez, _⟩ := how _ (List.Mem.head _)
      obtain rfl := ez (by simp)
      dsimp only at z8_0
      obtain ⟨_, z8_1, _, ez⟩ := how _ (List.Mem.tail _ (List.Mem.head _))
      obtain ⟨b10, A10, n10, c10, A'10, n'10, c'10, rfl, h10⟩ := ez (by simp)
      dsimp only at z8_1
      (try dsimp only)
      clear hrr hfl how hds 
      clear x1a x4a
      have bw8 := hbw.trans hbl8
      have cz8_1_0 : w8.cell? ⟨w3.heap.size, 0, none⟩ = some (.bool b10) := z8_1.cell 0
      have cz8_1_1 : w8.cell? ⟨w3.heap.size, 1, none⟩ = some (.slice A10 n10 c10) := z8_1.cell 1
      have cz8_1_2 : w8.cell? ⟨w3.heap.size, 2, none⟩ = some (.slice A'10 n'10 c'10) := z8_1.cell 2
      obtain ⟨lz8_1_0, lz8_1_1, lz8_1_2, lz8_1_3⟩ := lts0 z8_1.lt
      go_wp2_with fail
      clear cz8_1_0 cz8_1_1 cz8_1_2 lz8_1_0 lz8_1_1 lz8_1_2 lz8_1_3
      go_roundw
      case rel => exact ⟨j + 1, b10, A10, n10, c10, A'10, n'10, c'10, by go_num, by omega, by omega, by rw [← HQ.out]; exact h10.mono (by have := HSS.out; omega), hkp, bw8, by omega, z8_0, z8_1⟩
      case measure => simp [intOf]; omega
    · have hi1 : ((j : Int) < (B.length : Int)) = False := by simp; omega
      obtain rfl : j = B.length := by omega
      have hjE : B.length - (D.length + 1) = E.length := by omega
      rw [hjE, HZN.out] at ho
      unfold tenQ at ho
      rw [hjE] at hS
      obtain ⟨v, hv⟩ : ∃ v : Rat, Rat.divInt ((zn : Nat) : Int) ((10 ^ E.length : Nat) : Int) = v := ⟨_, rfl⟩
      rw [hv] at ho
      rw [hS] at ho
      have HV := Lib.hid hv
      clear hv hS
      obtain ⟨cx4aa, cx4ab, cx4ac⟩ := x4a.c3
      obtain ⟨lx4aa, lx4ab, lx4ac, lx4ad⟩ := lts0 x4a.lt
      go_wp2_with fail
      (with_reducible refine (g_neg _ bo Ao no co Do mo eo (v) (S) ?_ ?_ ?_).mono ?_); (exact ho.qz); (first | omega | decide | assumption); (first | omega | decide | assumption); rintro e w8 ⟨b8, A8, n8, c8, A'8, n'8, c'8, rfl, h8, q8⟩
      clear cx4aa cx4ab cx4ac lx4aa lx4ab lx4ac lx4ad
      replace h3 := h3.belw q8
      replace ho := ho.belw q8
      replace hkp := hkp.below q8
      replace x1a := x1a.b q8
      replace x4a := x4a.b q8
      have bw8 := hbw.trans (q8.mono hbw.size)
      have lw8 := q8.size
      clear q8
      obtain ⟨cx1aa, cx1ab, cx1ac⟩ := x1a.c3
      obtain ⟨fx1aa, fx1ab, fx1ac⟩ := x1a.f3
      obtain ⟨lx1aa, lx1ab, lx1ac, lx1ad⟩ := lts0 x1a.lt
      obtain ⟨cx4aa, cx4ab, cx4ac⟩ := x4a.c3
      obtain ⟨fx4aa, fx4ab, fx4ac⟩ := x4a.f3
      obtain ⟨lx4aa, lx4ab, lx4ac, lx4ad⟩ := lts0 x4a.lt
      go_wp2_with fail
      refine bodyPost_ret (v := .tuple #[.agg #[.bool b8, .slice A8 n8 c8, .slice A'8 n'8 c'8], .int .i64 0]) (by simp [results, Tryz.results17, go_sem, *] <;> first | rfl | exact ⟨rfl, rfl⟩) rfl ?_
      have hval : -((v)) = Rat.divInt (sgI true ((zn : Nat) : Int)) ((10 ^ E.length : Nat) : Int) := by rw [← HV.out]; exact neg_div _ _
      exact ⟨_, _, _, _, _, _, _, rfl, by rw [← hval]; exact ((h8).keep (((((((Kp.refl w8).sb w3.heap.size 0 x4a.box (by decide) (.bool b8)).sb w3.heap.size 1 (x4a.box.set ⟨w3.heap.size, 0, none⟩ (.bool b8)) (by decide) (.slice A8 n8 c8)).sb w3.heap.size 2 ((x4a.box.set ⟨w3.heap.size, 0, none⟩ (.bool b8)).set ⟨w3.heap.size, 1, none⟩ (.slice A8 n8 c8)) (by decide) (.slice A'8 n'8 c'8)).sb w.heap.size 0 (((x1a.box.set ⟨w3.heap.size, 0, none⟩ (.bool b8)).set ⟨w3.heap.size, 1, none⟩ (.slice A8 n8 c8)).set ⟨w3.heap.size, 2, none⟩ (.slice A'8 n'8 c'8)) (by decide) (.bool b8)).sb w.heap.size 1 ((((x1a.box.set ⟨w3.heap.size, 0, none⟩ (.bool b8)).set ⟨w3.heap.size, 1, none⟩ (.slice A8 n8 c8)).set ⟨w3.heap.size, 2, none⟩ (.slice A'8 n'8 c'8)).set ⟨w.heap.size, 0, none⟩ (.bool b8)) (by decide) (.slice A8 n8 c8)).sb w.heap.size 2 (((((x1a.box.set ⟨w3.heap.size, 0, none⟩ (.bool b8)).set ⟨w3.heap.size, 1, none⟩ (.slice A8 n8 c8)).set ⟨w3.heap.size, 2, none⟩ (.slice A'8 n'8 c'8)).set ⟨w.heap.size, 0, none⟩ (.bool b8)).set ⟨w.heap.size, 1, none⟩ (.slice A8 n8 c8)) (by decide) (.slice A'8 n'8 c'8))).mono (by omega), ((((((bw8.sc w3.heap.size 0 (by omega) (.bool b8)).sc w3.heap.size 1 (by omega) (.slice A8 n8 c8)).sc w3.heap.size 2 (by omega) (.slice A'8 n'8 c'8)).sc w.heap.size 0 (by omega) (.bool b8)).sc w.heap.size 1 (by omega) (.slice A8 n8 c8)).sc w.heap.size 2 (by omega) (.slice A'8 n'8 c'8))⟩
end Go.Proofs.YtfbigmdpdcpkfaaGreatDoor

/- Walks: TokenValues. -/
namespace Go.Proofs.YtfbigmdpdcpkfaaGreatDoor
open Go Go.RowKit Bn
attribute [local go_sem ↓] Go.wp_at_zero Go.wp_at_succ
theorem r_value_o (w : World) (s : List UInt8) (x : Int) (q : Rat) (h : ValOut s x q) : Calls Tryz.prog 17 #[strV s] w (RetFe w (.int .i64 x) q 500) := by
  have hm : ∀ {v : Value} {e : Ending} {w' : World}, RetFe w v q 1 e w' → RetFe w v q 500 e w' := fun h => by
    obtain ⟨b, A, n, c, A', n', c', h1, h2, h3⟩ := h
    exact ⟨b, A, n, c, A', n', c', h1, h2.mono (by decide), h3⟩
  rcases h with ⟨h, rfl, rfl⟩ | ⟨h, hb, rfl, rfl⟩ | ⟨m, D, h, hn, hD, hs, rfl, rfl⟩ | ⟨m, D, E, h, hn, hD, hE, hs, h0, rfl, rfl⟩ | ⟨m, D, E, h, hn, hD, hE, hs, h0, rfl, rfl⟩ | ⟨m, D, E, h, hn, hD, hE, hs, rfl, rfl⟩
  · exact (r_value_large w s h).mono fun _ _ r => hm r
  · exact (r_value_bad w s h hb).mono fun _ _ r => hm r
  · cases m
    · exact r_value_whole_f w s D h hn hD hs
    · exact r_value_whole_t w s D h hn hD hs
  · cases m
    · exact (r_value_quo0_f w s D E h hn hD hE hs h0).mono fun _ _ r => hm r
    · exact (r_value_quo0_t w s D E h hn hD hE hs h0).mono fun _ _ r => hm r
  · cases m
    · exact r_value_quo_f w s D E h hn hD hE hs h0
    · exact r_value_quo_t w s D E h hn hD hE hs h0
  · cases m
    · exact r_value_dot_f w s D E h hn hD hE hs
    · exact r_value_dot_t w s D E h hn hD hE hs
theorem l_TokenValues (w : World) (s : List UInt8) (_ : s.length < 9223372036854775808) (_ : Tab w) (hmx : Mx w) : Calls Tryz.prog 6 #[strV s] w (RetV w (.bool true)) := by
 obtain ⟨x, q, hx⟩ := valOut s
 have HX := Lib.hid hx
 clear hx
 obtain ⟨v, hv⟩ : ∃ v, nameOk s = v := ⟨_, rfl⟩
 have HV := Lib.hid hv
 clear hv
 by_cases h1 : 3000 < s.length
 ·have f1 : ((3000 : Int) < (s.length : Int)) = True := eq_true (by omega)
  go_enter Tryz.func6, Tryz.ntmps6
  go_wp2_with fail
  (with_reducible refine (l18_awake _ (hmx.belw (brefl w))).mono ?_); rintro e w1 ⟨rfl, q1⟩
  have bw1 := (brefl w).trans (q1.mono (brefl w).size)
  have lw1 := q1.size
  clear q1
  go_wp2_with fail
  (with_reducible refine (l18_awake _ (hmx.belw bw1)).mono ?_); rintro e w2 ⟨rfl, q2⟩
  have bw2 := bw1.trans (q2.mono bw1.size)
  have lw2 := q2.size
  clear q2 bw1
  go_wp2_with fail
  go_ret
  exact retB rfl bw2
 ·have f1 : ((3000 : Int) < (s.length : Int)) = False := eq_false (by omega)
  have hsl : s.length < 4611686018427387904 := by omega
  go_enter Tryz.func6, Tryz.ntmps6
  go_wp2_with fail
  (with_reducible refine (l18_awake _ (hmx.belw (brefl w))).mono ?_); rintro e w1 ⟨rfl, q1⟩
  have bw1 := (brefl w).trans (q1.mono (brefl w).size)
  have lw1 := q1.size
  clear q1
  go_wp2_with fail
  (with_reducible refine (t_value_o _ (s) x q (hmx.belw bw1) HX.out).mono ?_); rintro e w2 ⟨b2, A2, n2, c2, A'2, n'2, c'2, rfl, h2, q2⟩
  have bw2 := bw1.trans (q2.mono bw1.size)
  have lw2 := q2.size
  clear q2 bw1
  go_wp2_with fail
  (with_reducible refine (r_value_o _ (s) x q HX.out).mono ?_); rintro e w3 ⟨b3, A3, n3, c3, A'3, n'3, c'3, rfl, h3, hb3⟩
  have q3 := ((Below.refl _ _).alloc (Nat.le_refl _) _).trans (hb3.mono (by simp))
  replace h2 := h2.belw q3
  have x3a : Blk w3 w2.heap.size 39 #[.bool b2, .slice A2 n2 c2, .slice A'2 n'2 c'2] := (blkAt _ _ _ (by simp)).below hb3 (by simp)
  have bw3 := bw2.trans (q3.mono bw2.size)
  have lw3 : w2.heap.size + 1 ≤ w3.heap.size := by have := hb3.size; simp at this; omega
  clear q3 bw2
  go_wp2_with fail
  (with_reducible refine (t_name _ (s) hsl v HV.out).mono ?_); rintro e w4 ⟨rfl, hb4⟩
  have q4 := ((Below.refl _ _).alloc (Nat.le_refl _) _).trans (hb4.mono (by simp))
  replace h2 := h2.belw q4
  replace h3 := h3.belw q4
  replace x3a := x3a.b q4
  have x4a : Blk w4 w3.heap.size 39 #[.bool b3, .slice A3 n3 c3, .slice A'3 n'3 c'3] := (blkAt _ _ _ (by simp)).below hb4 (by simp)
  have bw4 := bw3.trans (q4.mono bw3.size)
  have lw4 : w3.heap.size + 1 ≤ w4.heap.size := by have := hb4.size; simp at this; omega
  clear q4 bw3
  go_wp2_with fail
  (with_reducible refine (r_name _ (s) hsl v HV.out).mono ?_); rintro e w5 ⟨rfl, q5⟩
  replace h2 := h2.belw q5
  replace h3 := h3.belw q5
  replace x3a := x3a.b q5
  replace x4a := x4a.b q5
  have bw5 := bw4.trans (q5.mono bw4.size)
  have lw5 := q5.size
  clear q5 bw4
  go_wp2_with fail
  (with_reducible refine (b_num_v _ x).mono ?_); rintro e w6 ⟨rfl, q6⟩
  replace h2 := h2.belw q6
  replace h3 := h3.belw q6
  replace x3a := x3a.b q6
  replace x4a := x4a.b q6
  have bw6 := bw5.trans (q6.mono bw5.size)
  have lw6 := q6.size
  clear q6 bw5
  obtain ⟨cx3aa, cx3ab, cx3ac⟩ := x3a.c3
  obtain ⟨lx3aa, lx3ab, lx3ac, lx3ad⟩ := lts0 x3a.lt
  obtain ⟨cx4aa, cx4ab, cx4ac⟩ := x4a.c3
  obtain ⟨lx4aa, lx4ab, lx4ac, lx4ad⟩ := lts0 x4a.lt
  go_wp2_with fail
  (with_reducible refine (b_rat_v9 _ b2 A2 n2 c2 A'2 n'2 c'2 (q) (130) ?_ b3 A3 n3 c3 A'3 n'3 c'3 (q) (500) ?_ rfl (by decide)).mono ?_); (exact h2); (exact h3); rintro e w7 ⟨rfl, q7⟩
  clear cx3aa cx3ab cx3ac lx3aa lx3ab lx3ac lx3ad cx4aa cx4ab cx4ac lx4aa lx4ab lx4ac lx4ad
  replace h2 := h2.belw q7
  replace h3 := h3.belw q7
  replace x3a := x3a.b q7
  replace x4a := x4a.b q7
  have bw7 := bw6.trans (q7.mono bw6.size)
  have lw7 := q7.size
  clear q7 bw6
  go_wp2_with fail
  go_ret
  exact retB rfl bw7
end Go.Proofs.YtfbigmdpdcpkfaaGreatDoor

/- TokenValues: Name and Value return what the reference does, or the errors; for every input the law returns true. The listed library variables are tied to the program text. -/
namespace Go.Proofs.YtfbigmdpdcpkfaaGreatDoor
open Go Go.RowKit Bn Go.ChangeShapes Go.WideShapes Go.ChangeAt
theorem values_contract (H : Type) (enc : TypeId × Value → H) (W : World) (base : Nat) (args : Array Value) (ds gs : List (DataW H)) (before : List MemPlace)
    (hval0 : ∀ (j : Nat) t v, Tryz.f6.params[j]? = some t → args[j]? = some v → Value.okWide Tryz.prog W .any base t v)
    (hW : DataW.Whole enc Tryz.prog Tryz.f6.params.toList Rows.tokenValuesSpec.vars false W args.toList ds gs before) (hL : laidMetH Tryz.prog Rows.tokenValuesRow.laid W) (hsh : W.ShapedOpen Tryz.prog) :
    Calls Tryz.prog 6 args W fun e W' => ∃ v, e = .returned v ∧ Rows.tokenValuesSpec.post enc Tryz.prog Tryz.f6 false true false false W args v W' := by
  have hval : ∀ (j : Nat) t v, Tryz.f6.params[j]? = some t → args[j]? = some v → Value.okWide Tryz.prog W .any base t v := hval0
  have htab : Tab W := tab_of_laid hL
  have hmx : Mx W := mx_of_shaped hsh
  have hW' := hW
  obtain ⟨p, q, hA0, hV, rfl, hfz, hnd⟩ := hW
  have hA : DataW.TrodAll enc Tryz.prog W 0 (fun _ => true) true Tryz.f6.params.toList args.toList ds p := hA0
  rw [Tryz.params6] at hA hval
  obtain ⟨v0, d0, rfl, rfl, h0⟩ := trodAll_one hA
  obtain ⟨rfl, rfl⟩ := trodVars_none hV
  obtain ⟨s, rfl, rfl, rfl, hs⟩ := Go.ChangeMaps.open_string Tryz.underlying9 (hval 0 _ v0 rfl rfl) h0
  obtain ⟨t, rfl⟩ : ∃ t : List UInt8, s = ⟨t.toArray⟩ := ⟨s.data.toList, by simp⟩
  have ht : t.length < 9223372036854775808 := by unfold maxLen at hs; have h9 : t.length ≤ _ := hs; omega
  refine (l_TokenValues W t ht htab hmx).mono fun e W' ⟨he, hb⟩ => ?_
  subst he
  exact ⟨_, rfl, law_post laid_out Tryz.underlying4 hW' rfl rfl (by kernel_rfl) rfl rfl rfl hb⟩
theorem values_lifted (os : Os) (started : os.Started) (H : Type) (enc : TypeId × Value → H) (F : Stop.Interp) :
    ReturnsInHanded {} Tryz.checked os 6 .any ((OpenSpec.ofChange Rows.tokenValuesSpec).preRow enc Tryz.prog Tryz.f6 Rows.tokenValuesRow.domain false Rows.tokenValuesRow.laid) (((OpenSpec.ofChange Rows.tokenValuesSpec).at F).post enc Tryz.prog Tryz.f6 false true false false) := by
  have hx : DataW.whole enc Tryz.prog ((laidWorld os).forCall (fun _ _ => 0) ⟨#[], #[.string ⟨#[]⟩], []⟩).memory Tryz.f6.params.toList Rows.tokenValuesSpec.vars false (#[.string ⟨#[]⟩] : Array Value).toList 8 = some ([.lit (.string [])], [], []) := by kernel_rfl
  have hl : laidMet Tryz.prog Rows.tokenValuesRow.laid ((laidWorld os).forCall (fun _ _ => 0) ⟨#[], #[.string ⟨#[]⟩], []⟩).memory := laidMet_of_run' 8 (by kernel_rfl) (by kernel_rfl)
  refine returnsInHanded_of_row (C := Tryz.checked) (s := OpenSpec.ofChange Rows.tokenValuesSpec) own_knob started (by kernel_rfl) Tryz.func6
    (witness_row_at (enc := enc) (C := Tryz.checked) false (laidWorld os) #[.string ⟨#[]⟩] rfl (by kernel_rfl) (by kernel_rfl) (by kernel_rfl)
      (OpenSpec.preRow_of_cond 8 hx (by kernel_rfl) (fun k hk => by cases hk) (by kernel_rfl) hl)) ?_
  intro W base args ds gs before hval hW _ _ _ hL hsh _
  exact values_contract H enc W base args ds gs before hval hW hL hsh
theorem values_j2 : (Rows.tokenValuesRow.inPlace == Tryz.pinned.checked.prog.inPlace 6) = true := by kernel_rfl
theorem values_j3 : (Rows.tokenValuesRow.unfollowed == Tryz.pinned.checked.prog.unfollowed 6) = true := by kernel_rfl
theorem values_j4 : (Rows.tokenValuesRow.recurses == Tryz.pinned.checked.prog.recurses 6) = true := by kernel_rfl
theorem values_j5 : (Rows.tokenValuesRow.named == Tryz.pinned.checked.prog.varsNamed 6) = true := by kernel_rfl
theorem values_joined : joinedFacts Tryz.pinned.checked.prog 6 Tryz.f6 (OpenSpec.ofChange Rows.tokenValuesSpec).bare Rows.tokenValuesRow = true := joined_parts (by kernel_rfl) values_j2 values_j3 values_j4 values_j5 (by kernel_rfl)
theorem values_inst : Tryz.f6.isInstance Tryz.pinned.checked.prog Rows.tokenValuesRow.origin Rows.tokenValuesRow.targs := of_decide_eq_true (by kernel_rfl)
theorem values_said : Rows.TokenValuesSaid :=
  OpenClaim.holds_of_cond 6 Tryz.f6 rfl rfl rfl rfl rfl rfl rfl ⟨rfl, rfl, rfl, rfl, rfl⟩ rfl rfl rfl rfl rfl (by kernel_rfl) Tryz.func6 values_joined
    values_inst (by unfold Func.isWrapper; first | (rw [if_pos (by decide +kernel)]; kernel_rfl) | (rw [if_neg (by decide +kernel)]; exact ⟨rfl, rfl⟩))
    (fun os started H enc _ F => by rw [OpenClaim.pre_eq_preRow]; exact values_lifted os started H enc F)
theorem values_plain (f : FuncId) (fn : Func) (hf : Tryz.pinned.checked.prog.funcNamed "linkwork/linkworklaw18.TokenValues" = some f) (hfn : Tryz.pinned.checked.prog.funcs[f]? = some fn) :
    true = Tryz.pinned.checked.prog.looks [] ∧ ∀ (j : Nat) t, fn.params[j]? = some t → Tryz.pinned.checked.prog.wantsStandIn t = false := by
  obtain rfl : f = 6 := Option.some.inj ((show Tryz.prog.funcNamed "linkwork/linkworklaw18.TokenValues" = some 6 by kernel_rfl).symm.trans hf) |>.symm
  obtain rfl : fn = Tryz.f6 := (Option.some.inj (Tryz.func6.symm.trans hfn)).symm
  refine ⟨by kernel_rfl, fun j t ht => ?_⟩
  rw [Tryz.params6] at ht
  have hm : t ∈ [9] := by
    have := Array.mem_of_getElem? ht
    simp at this ⊢
    first
      | exact this
      | exact .inl this
  have hall : ([9].all fun u => !Tryz.prog.wantsStandIn u) = true := by kernel_rfl
  exact (show Tryz.prog.wantsStandIn t = false by simpa using List.all_eq_true.1 hall t hm)
theorem values_holds : Rows.TokenValuesCardSaid :=
  Claim7.holds_tied_plain_at .later [] _ _ _ _ values_said (fun _ h => by cases h) (by kernel_rfl) (fun _ h => by cases h) tokenValues_row_tie rfl ⟨rfl, rfl⟩ (by kernel_rfl) rfl values_plain (by kernel_rfl)
end Go.Proofs.YtfbigmdpdcpkfaaGreatDoor
