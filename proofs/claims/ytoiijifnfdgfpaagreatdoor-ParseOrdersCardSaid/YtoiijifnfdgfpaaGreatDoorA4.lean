/- Part A4: lemmas and walks that the claim rests on. No claim is made here. -/
import Derived.Deep.RegionHeld3
import Derived.Deep.DrawnRows
import Derived.Test.YtoiijifnfdgfpaaGreatDoorA3
set_option linter.unusedVariables false
set_option maxHeartbeats 8000000
set_option maxRecDepth 100000
/- Walks: tokens: the value of a number. -/
namespace Go.Proofs.YtoiijifnfdgfpaaGreatDoor
open Go Go.RowKit Bn
attribute [local go_sem ↓] Go.wp_at_zero Go.wp_at_succ
theorem trimL_v (w : World) (s : List UInt8) : Calls Tryz.prog 229 #[strV s, .string ⟨#[48]⟩] w (RetV w (strV (s.dropWhile (· == 48)))) := by
  refine (Tryz.strings_TrimLeft_one ⟨s.toArray⟩ 48 (by decide) w).mono fun e w' ⟨he, hw⟩ => ⟨?_, hw ▸ brefl _⟩
  rw [he]
  congr 2
theorem cutp_v (w : World) (s : List UInt8) (m : Bool) (b : List UInt8) (hm : headM s = m) (hb : tailS s = b) : Calls Tryz.prog 192 #[strV s, .string ⟨#[45]⟩] w (RetV w (.tuple #[strV b, .bool m])) := by
  refine (Tryz.strings_CutPrefix ⟨s.toArray⟩ ⟨#[45]⟩ w).mono fun e w' ⟨he, hw⟩ => ⟨?_, hw ▸ brefl _⟩
  rw [he]
  have e1 : Lib.hasPrefix s [45] = m := (hasPrefix_m s).trans hm
  have e2 : Lib.trimPrefix s [45] = b := (trimPrefix_m s).trans hb
  show Ending.returned (.tuple #[.string ⟨(Lib.trimPrefix s [45]).toArray⟩, .bool (Lib.hasPrefix s [45])]) = _
  rw [e1, e2]
theorem rep_v (w : World) (n : Nat) (hn : n ≤ 1000) (Z : List UInt8) (hZ : List.replicate n 48 = Z) : Calls Tryz.prog 86 #[.string ⟨#[48]⟩, .int .i64 (n : Nat)] w (RetV w (strV Z)) := by
  refine (Tryz.strings_Repeat ⟨#[48]⟩ n w (by omega) (by show 1 * n ≤ _; omega)).mono fun e w' ⟨he, hb⟩ => ⟨?_, hb⟩
  subst hZ
  rw [he]
  have e9 : ∀ k, Lib.repeatL [48] k = List.replicate k 48 := fun k => by
    induction k with
    | zero => rfl
    | succ k ih => rw [Lib.repeatL, ih, List.replicate_succ]; rfl
  exact congrArg (fun x : List UInt8 => Ending.returned (strV x)) (e9 n)
theorem parse_d (w : World) (T : List UInt8) (z : Int) (ho : okZ T = true) (hz : valZ T = z) (hl : T.length ≤ 130) : Calls Tryz.prog 76 #[strV T] w (RetIe w .nilIface z 130) := by
  subst hz
  exact (i_parse_ok w T (by omega) ho).mono fun e w' ⟨b, A, n, c, h1, h2, h3⟩ => ⟨b, A, n, c, h1, h2.mono hl, h3⟩
theorem t_plain (w : World) (s t : List UInt8) (ht : plainT s = t) : Calls Tryz.prog 193 #[strV s] w (RetV w (strV t)) := by
 obtain ⟨u, hu⟩ : ∃ u, s.dropWhile (· == 48) = u := ⟨_, rfl⟩
 unfold plainT at ht
 rw [hu] at ht
 have HT := trimL_v w s
 rw [hu] at HT
 have HT := Lib.hid HT
 by_cases h0 : u = []
 ·subst h0
  obtain rfl : [48] = t := ht
  clear hu
  go_enter Tryz.func193, Tryz.ntmps193
  go_wp2_with fail
  (with_reducible refine HT.out.mono ?_); rintro e w1 ⟨rfl, hb1⟩
  go_wp2_with fail
  go_ret
  exact ⟨rfl, hb1⟩
 ·obtain rfl : u = t := by rw [if_neg h0] at ht; exact ht
  obtain ⟨y, ys, hyy⟩ := List.exists_cons_of_ne_nil h0
  have hBe : ((⟨u.toArray⟩ : ByteArray) == ⟨#[]⟩) = false := by rw [hyy]; rfl
  have hBl : (u == []) = false := by rw [hyy]; rfl
  have hBn : (u = []) = False := eq_false h0
  clear hu hyy h0
  go_enter Tryz.func193, Tryz.ntmps193
  go_wp2_with fail
  (with_reducible refine HT.out.mono ?_); rintro e w1 ⟨rfl, hb1⟩
  go_wp2_with fail
  go_ret
  exact ⟨rfl, hb1⟩
theorem t_value_large (w : World) (s : List UInt8) (h : 60 < s.length) : Calls Tryz.prog 154 #[strV s] w (RetFe w (.iface 63 (.int .i64 4)) 0 1) := by
 have hszs := size_v s
 have hlen : ((60 : Int) < (s.length : Int)) = True := eq_true (by omega)
 go_enter Tryz.func154, Tryz.ntmps154
 go_wp2_with fail
 refine bodyPost_ret (v := .tuple #[.agg #[.bool false, .slice none 0 0, .slice none 0 0], .iface 63 (.int .i64 4)]) (by simp [results, Tryz.results154, go_sem, *] <;> first | rfl | exact ⟨rfl, rfl⟩) rfl ?_
 exact ⟨_, _, _, _, _, _, _, rfl, QV.zero _ _, ((brefl w).alloc (by first | omega | (simp <;> omega)) (.cells #[.bool false, .slice none 0 0, .slice none 0 0] 72))⟩
theorem t_value_bad (w : World) (s : List UInt8) (h : s.length ≤ 60) (hb : s.length = 0 ∨ numN s ≠ s.length) : Calls Tryz.prog 154 #[strV s] w (RetFe w (.iface 63 (.int .i64 2)) 0 1) := by
 have hszs := size_v s
 have hlen : ((60 : Int) < (s.length : Int)) = False := eq_false (by omega)
 obtain ⟨n, hn⟩ : ∃ n, numN s = n := ⟨_, rfl⟩
 have hnl : n ≤ s.length := by rw [← hn]; exact numN_le s
 rw [hn] at hb
 by_cases h0 : n = 0
 ·subst h0
  clear hb
  go_enter Tryz.func154, Tryz.ntmps154
  go_wp2_with fail
  (with_reducible refine (t_number _ (s) (by omega) 0 hn).mono ?_); rintro e w1 ⟨rfl, hb1⟩
  have q1 := ((Below.refl _ _).alloc (Nat.le_refl _) _).trans (hb1.mono (by simp))
  have x1a : Blk w1 w.heap.size 72 #[.bool false, .slice none 0 0, .slice none 0 0] := (blkAt _ _ _ (by simp)).below hb1 (by simp)
  have bw1 := (brefl w).trans (q1.mono (brefl w).size)
  have lw1 : w.heap.size + 1 ≤ w1.heap.size := by have := hb1.size; simp at this; omega
  clear q1
  obtain ⟨cx1aa, cx1ab, cx1ac⟩ := x1a.c3
  obtain ⟨fx1aa, fx1ab, fx1ac⟩ := x1a.f3
  obtain ⟨lx1aa, lx1ab, lx1ac, lx1ad⟩ := lts0 x1a.lt
  go_wp2_with fail
  refine bodyPost_ret (v := .tuple #[.agg #[.bool false, .slice none 0 0, .slice none 0 0], .iface 63 (.int .i64 2)]) (by simp [results, Tryz.results154, go_sem, *] <;> first | rfl | exact ⟨rfl, rfl⟩) rfl ?_
  exact ⟨_, _, _, _, _, _, _, rfl, QV.zero _ _, (((bw1.sc w.heap.size 0 (by omega) (.bool false)).sc w.heap.size 1 (by omega) (.slice none 0 0)).sc w.heap.size 2 (by omega) (.slice none 0 0))⟩
 ·have e0 : ((n : Int) == 0) = false := by simp; omega
  have e00 : ((n : Int) = 0) = False := eq_false (by omega)
  have e1 : ((n : Int) == (s.length : Int)) = false := by simp; omega
  clear hb h0
  go_enter Tryz.func154, Tryz.ntmps154
  go_wp2_with fail
  (with_reducible refine (t_number _ (s) (by omega) n hn).mono ?_); rintro e w1 ⟨rfl, hb1⟩
  have q1 := ((Below.refl _ _).alloc (Nat.le_refl _) _).trans (hb1.mono (by simp))
  have x1a : Blk w1 w.heap.size 72 #[.bool false, .slice none 0 0, .slice none 0 0] := (blkAt _ _ _ (by simp)).below hb1 (by simp)
  have bw1 := (brefl w).trans (q1.mono (brefl w).size)
  have lw1 : w.heap.size + 1 ≤ w1.heap.size := by have := hb1.size; simp at this; omega
  clear q1
  obtain ⟨cx1aa, cx1ab, cx1ac⟩ := x1a.c3
  obtain ⟨fx1aa, fx1ab, fx1ac⟩ := x1a.f3
  obtain ⟨lx1aa, lx1ab, lx1ac, lx1ad⟩ := lts0 x1a.lt
  go_wp2_with fail
  refine bodyPost_ret (v := .tuple #[.agg #[.bool false, .slice none 0 0, .slice none 0 0], .iface 63 (.int .i64 2)]) (by simp [results, Tryz.results154, go_sem, *] <;> first | rfl | exact ⟨rfl, rfl⟩) rfl ?_
  exact ⟨_, _, _, _, _, _, _, rfl, QV.zero _ _, (((bw1.sc w.heap.size 0 (by omega) (.bool false)).sc w.heap.size 1 (by omega) (.slice none 0 0)).sc w.heap.size 2 (by omega) (.slice none 0 0))⟩
theorem t_value_whole (w : World) (s : List UInt8) (m : Bool) (D : List UInt8) (hmx : Mx w) (h : s.length ≤ 60) (hn : numN s = s.length) (hD : isD D) (hs : s = sg m D) : Calls Tryz.prog 154 #[strV s] w (RetFe w .nilIface ((sgI m (decVal D) : Int) : Rat) 130) := by
 have hszs := size_v s
 have hlen : ((60 : Int) < (s.length : Int)) = False := eq_false (by omega)
 have hhm := headM_sg (m := m) (r := []) hD
 have h1l : D.length + 0 ≤ s.length := by rw [hs]; cases m <;> simp [sg] <;> omega
 have h2l : 0 < D.length := List.length_pos_iff.2 hD.1
 have hBS : D.length ≤ 60 := by first | omega | (simp; omega)
 rw [List.append_nil] at hhm
 rw [← hs] at hhm
 have HH := Lib.hid hhm
 have HC1 := Lib.hid (cut_no (isD_no hD (c := 47) (by decide)))
 have HC2 := Lib.hid (cut_no (isD_no hD (c := 46) (by decide)))
 have hNd : D.all isDg = true := hD.2
 obtain ⟨TN, hTN⟩ : ∃ TN, plainT D = TN := ⟨_, rfl⟩
 obtain ⟨hN1, hN2, hN3⟩ := plain_ok hNd
 rw [hTN] at hN1 hN2 hN3
 obtain ⟨zn, hzn⟩ : ∃ zn : Nat, decVal D = zn := ⟨_, rfl⟩
 rw [hzn] at hN2
 have hNl : TN.length ≤ 130 := by omega
 have HTN := Lib.hid hTN
 have HN := Lib.hid (And.intro hN1 (And.intro hN2 hNl))
 obtain ⟨TD, hTD⟩ : ∃ TD, plainT [49] = TD := ⟨_, rfl⟩
 have hM1 : okZ TD = true := by rw [← hTD]; decide
 have hM2 : valZ TD = ((1 : Nat) : Int) := by rw [← hTD]; decide
 have hMl : TD.length ≤ 130 := by rw [← hTD]; decide
 obtain ⟨zd, hzd⟩ : ∃ zd : Nat, (1 : Nat) = zd := ⟨_, rfl⟩
 rw [hzd] at hM2
 have hDz : zd < 4294967296 ^ 60 := by rw [← hzd]; decide
 have HTD := Lib.hid hTD
 have HD := Lib.hid (And.intro hM1 (And.intro hM2 hMl))
 have hNz : zn < 4294967296 ^ 60 := by rw [← hzn]; exact dec_sz60 hNd (by omega)
 rw [hzn]
 have hzd0 : (zd : Int) ≠ 0 := by omega
 obtain ⟨v, hv⟩ : ∃ v : Rat, ((sgI m (zn : Nat) : Int) : Rat) = v := ⟨_, rfl⟩
 rw [hv]
 have HV : Hid (Rat.divInt (sgI m (zn : Nat)) (zd : Nat) = v) := Lib.hid (by rw [← hv, ← hzd]; exact int_q _)
 have HSZ : Hid (Sz v 130) := Lib.hid (by rw [← HV.out]; exact Sz_divInt (by rw [sgI_abs]; exact Nat.lt_trans hNz (Nat.pow_lt_pow_right (by decide) (by decide))) (by rw [Int.natAbs_natCast]; exact Nat.lt_trans hDz (Nat.pow_lt_pow_right (by decide) (by decide))) (by decide))
 have HZ0 := Lib.hid hzd0
 have hn0 : ((s.length : Int) == 0) = false := beq_eq_false_iff_ne.2 (by omega)
 have hn00 : ((s.length : Int) = 0) = False := eq_false (by omega)
 have hsl : s.length < 4611686018427387904 := by omega
 have HBS := Lib.hid hBS
 clear hs hhm hNd hTN hN1 hN2 hN3 hNl hTD hM1 hM2 hMl hNz hDz hzd0 hv hzn hzd hBS
 have HmD := Lib.hid hD
 clear hD
 cases m
 ·have HV2 : Hid (Rat.divInt ((zn : Int)) (zd : Int) = v) := Lib.hid HV.out
  clear HV
  go_enter Tryz.func154, Tryz.ntmps154
  go_wp2_with fail
  (with_reducible refine (t_number _ (s) hsl s.length hn).mono ?_); rintro e w1 ⟨rfl, hb1⟩
  have q1 := ((Below.refl _ _).alloc (Nat.le_refl _) _).trans (hb1.mono (by simp))
  have x1a : Blk w1 w.heap.size 72 #[.bool false, .slice none 0 0, .slice none 0 0] := (blkAt _ _ _ (by simp)).below hb1 (by simp)
  have bw1 := (brefl w).trans (q1.mono (brefl w).size)
  have lw1 : w.heap.size + 1 ≤ w1.heap.size := by have := hb1.size; simp at this; omega
  clear q1
  go_wp2_with fail
  (with_reducible refine (cutp_v _ (s) false D HH.out.1 HH.out.2).mono ?_); rintro e w2 ⟨rfl, q2⟩
  replace x1a := x1a.b q2
  have bw2 := bw1.trans (q2.mono bw1.size)
  have lw2 := q2.size
  clear q2 bw1
  go_wp2_with fail
  (with_reducible refine (cut_v _ (D) 47 D [] false (hmx.belw bw2) (by have := HBS.out; omega) HC1.out).mono ?_); rintro e w3 ⟨rfl, q3⟩
  replace x1a := x1a.b q3
  have bw3 := bw2.trans (q3.mono bw2.size)
  have lw3 := q3.size
  clear q3 bw2
  go_wp2_with fail
  (with_reducible refine (cut_v _ (D) 46 D [] false (hmx.belw bw3) (by have := HBS.out; omega) HC2.out).mono ?_); rintro e w4 ⟨rfl, q4⟩
  replace x1a := x1a.b q4
  have bw4 := bw3.trans (q4.mono bw3.size)
  have lw4 := q4.size
  clear q4 bw3
  go_wp2_with fail
  (with_reducible refine (t_plain _ (D) TN HTN.out).mono ?_); rintro e w5 ⟨rfl, q5⟩
  replace x1a := x1a.b q5
  have bw5 := bw4.trans (q5.mono bw4.size)
  have lw5 := q5.size
  clear q5 bw4
  go_wp2_with fail
  (with_reducible refine (parse_d _ (TN) (zn : Nat) HN.out.1 HN.out.2.1 HN.out.2.2).mono ?_); rintro e w6 ⟨b6, A6, n6, c6, rfl, h6, q6⟩
  replace x1a := x1a.b q6
  have bw6 := bw5.trans (q6.mono bw5.size)
  have lw6 := q6.size
  clear q6 bw5
  go_wp2_with fail
  (with_reducible refine (t_plain _ ([49]) TD HTD.out).mono ?_); rintro e w7 ⟨rfl, hb7⟩
  have q7 := ((Below.refl _ _).alloc (Nat.le_refl _) _).trans (hb7.mono (by simp))
  replace h6 := h6.belw q7
  replace x1a := x1a.b q7
  have x7a : Blk w7 w6.heap.size 123 #[.bool b6, .slice A6 n6 c6] := (blkAt _ _ _ (by simp)).below hb7 (by simp)
  have bw7 := bw6.trans (q7.mono bw6.size)
  have lw7 : w6.heap.size + 1 ≤ w7.heap.size := by have := hb7.size; simp at this; omega
  clear q7 bw6
  go_wp2_with fail
  (with_reducible refine (parse_d _ (TD) (zd : Nat) HD.out.1 HD.out.2.1 HD.out.2.2).mono ?_); rintro e w8 ⟨b8, A8, n8, c8, rfl, h8, q8⟩
  replace h6 := h6.belw q8
  replace x1a := x1a.b q8
  replace x7a := x7a.b q8
  have bw8 := bw7.trans (q8.mono bw7.size)
  have lw8 := q8.size
  clear q8 bw7
  obtain ⟨cx7aa, cx7ab⟩ := x7a.c2
  obtain ⟨lx7aa, lx7ab, lx7ac, lx7ad⟩ := lts0 x7a.lt
  go_wp2_with fail
  (with_reducible refine (f_from _ b6 A6 n6 c6 (((zn : Nat) : Int)) (130) ?_ b8 A8 n8 c8 (((zd : Nat) : Int)) (130) ?_ v 130 HZ0.out HV2.out HSZ.out (by decide)).mono ?_); (exact (h6.belw ((Below.refl _ _).alloc (Nat.le_refl _) _)).iz); (exact (h8.belw ((Below.refl _ _).alloc (Nat.le_refl _) _)).iz); rintro e w9 ⟨b9, A9, n9, c9, A'9, n'9, c'9, rfl, h9, hb9⟩
  clear cx7aa cx7ab lx7aa lx7ab lx7ac lx7ad
  have q9 := ((Below.refl _ _).alloc (Nat.le_refl _) _).trans (hb9.mono (by simp))
  replace h6 := h6.belw q9
  replace h8 := h8.belw q9
  replace x1a := x1a.b q9
  replace x7a := x7a.b q9
  have x9a : Blk w9 w8.heap.size 123 #[.bool b8, .slice A8 n8 c8] := (blkAt _ _ _ (by simp)).below hb9 (by simp)
  have bw9 := bw8.trans (q9.mono bw8.size)
  have lw9 : w8.heap.size + 1 ≤ w9.heap.size := by have := hb9.size; simp at this; omega
  clear q9 bw8
  obtain ⟨cx1aa, cx1ab, cx1ac⟩ := x1a.c3
  obtain ⟨fx1aa, fx1ab, fx1ac⟩ := x1a.f3
  obtain ⟨lx1aa, lx1ab, lx1ac, lx1ad⟩ := lts0 x1a.lt
  go_wp2_with fail
  refine bodyPost_ret (v := .tuple #[.agg #[.bool b9, .slice A9 n9 c9, .slice A'9 n'9 c'9], .nilIface]) (by simp [results, Tryz.results154, go_sem, *] <;> first | rfl | exact ⟨rfl, rfl⟩) rfl ?_
  exact ⟨_, _, _, _, _, _, _, rfl, ((h9).keep ((((Kp.refl w9).sb w.heap.size 0 x1a.box (by decide) (.bool b9)).sb w.heap.size 1 (x1a.box.set ⟨w.heap.size, 0, none⟩ (.bool b9)) (by decide) (.slice A9 n9 c9)).sb w.heap.size 2 ((x1a.box.set ⟨w.heap.size, 0, none⟩ (.bool b9)).set ⟨w.heap.size, 1, none⟩ (.slice A9 n9 c9)) (by decide) (.slice A'9 n'9 c'9))).mono (by decide), (((bw9.sc w.heap.size 0 (by omega) (.bool b9)).sc w.heap.size 1 (by omega) (.slice A9 n9 c9)).sc w.heap.size 2 (by omega) (.slice A'9 n'9 c'9))⟩
 ·have HV2 : Hid (Rat.divInt (-(zn : Int)) (zd : Int) = v) := Lib.hid HV.out
  clear HV
  go_enter Tryz.func154, Tryz.ntmps154
  go_wp2_with fail
  (with_reducible refine (t_number _ (s) hsl s.length hn).mono ?_); rintro e w1 ⟨rfl, hb1⟩
  have q1 := ((Below.refl _ _).alloc (Nat.le_refl _) _).trans (hb1.mono (by simp))
  have x1a : Blk w1 w.heap.size 72 #[.bool false, .slice none 0 0, .slice none 0 0] := (blkAt _ _ _ (by simp)).below hb1 (by simp)
  have bw1 := (brefl w).trans (q1.mono (brefl w).size)
  have lw1 : w.heap.size + 1 ≤ w1.heap.size := by have := hb1.size; simp at this; omega
  clear q1
  go_wp2_with fail
  (with_reducible refine (cutp_v _ (s) true D HH.out.1 HH.out.2).mono ?_); rintro e w2 ⟨rfl, q2⟩
  replace x1a := x1a.b q2
  have bw2 := bw1.trans (q2.mono bw1.size)
  have lw2 := q2.size
  clear q2 bw1
  go_wp2_with fail
  (with_reducible refine (cut_v _ (D) 47 D [] false (hmx.belw bw2) (by have := HBS.out; omega) HC1.out).mono ?_); rintro e w3 ⟨rfl, q3⟩
  replace x1a := x1a.b q3
  have bw3 := bw2.trans (q3.mono bw2.size)
  have lw3 := q3.size
  clear q3 bw2
  go_wp2_with fail
  (with_reducible refine (cut_v _ (D) 46 D [] false (hmx.belw bw3) (by have := HBS.out; omega) HC2.out).mono ?_); rintro e w4 ⟨rfl, q4⟩
  replace x1a := x1a.b q4
  have bw4 := bw3.trans (q4.mono bw3.size)
  have lw4 := q4.size
  clear q4 bw3
  go_wp2_with fail
  (with_reducible refine (t_plain _ (D) TN HTN.out).mono ?_); rintro e w5 ⟨rfl, q5⟩
  replace x1a := x1a.b q5
  have bw5 := bw4.trans (q5.mono bw4.size)
  have lw5 := q5.size
  clear q5 bw4
  go_wp2_with fail
  (with_reducible refine (parse_d _ (TN) (zn : Nat) HN.out.1 HN.out.2.1 HN.out.2.2).mono ?_); rintro e w6 ⟨b6, A6, n6, c6, rfl, h6, q6⟩
  replace x1a := x1a.b q6
  have bw6 := bw5.trans (q6.mono bw5.size)
  have lw6 := q6.size
  clear q6 bw5
  go_wp2_with fail
  (with_reducible refine (t_plain _ ([49]) TD HTD.out).mono ?_); rintro e w7 ⟨rfl, hb7⟩
  have q7 := ((Below.refl _ _).alloc (Nat.le_refl _) _).trans (hb7.mono (by simp))
  replace h6 := h6.belw q7
  replace x1a := x1a.b q7
  have x7a : Blk w7 w6.heap.size 123 #[.bool b6, .slice A6 n6 c6] := (blkAt _ _ _ (by simp)).below hb7 (by simp)
  have bw7 := bw6.trans (q7.mono bw6.size)
  have lw7 : w6.heap.size + 1 ≤ w7.heap.size := by have := hb7.size; simp at this; omega
  clear q7 bw6
  go_wp2_with fail
  (with_reducible refine (parse_d _ (TD) (zd : Nat) HD.out.1 HD.out.2.1 HD.out.2.2).mono ?_); rintro e w8 ⟨b8, A8, n8, c8, rfl, h8, q8⟩
  replace h6 := h6.belw q8
  replace x1a := x1a.b q8
  replace x7a := x7a.b q8
  have bw8 := bw7.trans (q8.mono bw7.size)
  have lw8 := q8.size
  clear q8 bw7
  obtain ⟨cx7aa, cx7ab⟩ := x7a.c2
  obtain ⟨lx7aa, lx7ab, lx7ac, lx7ad⟩ := lts0 x7a.lt
  go_wp2_with fail
  (with_reducible refine (i_neg _ b6 A6 n6 c6 (((zn : Nat) : Int)) (130) ?_ ?_).mono ?_); (exact (h6.belw ((Below.refl _ _).alloc (Nat.le_refl _) _)).iz); (first | omega | decide | assumption); rintro e w9 ⟨b9, A9, n9, c9, rfl, h9, hb9⟩
  clear cx7aa cx7ab lx7aa lx7ab lx7ac lx7ad
  have q9 := ((Below.refl _ _).alloc (Nat.le_refl _) _).trans (hb9.mono (by simp))
  replace h6 := h6.belw q9
  replace h8 := h8.belw q9
  replace x1a := x1a.b q9
  replace x7a := x7a.b q9
  have x9a : Blk w9 w8.heap.size 123 #[.bool b8, .slice A8 n8 c8] := (blkAt _ _ _ (by simp)).below hb9 (by simp)
  have bw9 := bw8.trans (q9.mono bw8.size)
  have lw9 : w8.heap.size + 1 ≤ w9.heap.size := by have := hb9.size; simp at this; omega
  clear q9 bw8
  obtain ⟨cx7aa, cx7ab⟩ := x7a.c2
  obtain ⟨fx7aa, fx7ab⟩ := x7a.f2
  obtain ⟨lx7aa, lx7ab, lx7ac, lx7ad⟩ := lts0 x7a.lt
  obtain ⟨cx9aa, cx9ab⟩ := x9a.c2
  obtain ⟨lx9aa, lx9ab, lx9ac, lx9ad⟩ := lts0 x9a.lt
  go_wp2_with fail
  clear cx7aa fx7aa cx7ab fx7ab lx7aa lx7ab lx7ac lx7ad cx9aa cx9ab lx9aa lx9ab lx9ac lx9ad
  have p10 := (((Kp.refl w9).sb w6.heap.size 0 x7a.box (by decide) (.bool b9)).sb w6.heap.size 1 (x7a.box.set ⟨w6.heap.size, 0, none⟩ (.bool b9)) (by decide) (.slice A9 n9 c9))
  have bw10 := ((bw9.sc w6.heap.size 0 (by omega) (.bool b9)).sc w6.heap.size 1 (by omega) (.slice A9 n9 c9))
  replace x1a := ((x1a.fr w6.heap.size 0 (by omega) (.bool b9)).fr w6.heap.size 1 (by omega) (.slice A9 n9 c9))
  replace x7a := ((x7a.set_at 0 (.bool b9) #[.bool b9, .slice A6 n6 c6] (by simp)).set_at 1 (.slice A9 n9 c9) #[.bool b9, .slice A9 n9 c9] (by simp))
  replace x9a := ((x9a.fr w6.heap.size 0 (by omega) (.bool b9)).fr w6.heap.size 1 (by omega) (.slice A9 n9 c9))
  have lw10 : w9.heap.size + 0 ≤ ((w9.setCell ⟨w6.heap.size, 0, none⟩ (.bool b9)).setCell ⟨w6.heap.size, 1, none⟩ (.slice A9 n9 c9)).heap.size := by simp
  generalize hE10 : ((w9.setCell ⟨w6.heap.size, 0, none⟩ (.bool b9)).setCell ⟨w6.heap.size, 1, none⟩ (.slice A9 n9 c9)) = w10 at p10 bw10 lw10 x1a x7a x9a ⊢
  clear hE10
  replace h6 := h6.keep p10
  replace h8 := h8.keep p10
  replace h9 := h9.keep p10
  clear bw9
  (with_reducible refine (f_from _ b9 A9 n9 c9 (-(((zn : Nat) : Int))) ((130)) ?_ b8 A8 n8 c8 (((zd : Nat) : Int)) (130) ?_ v 130 HZ0.out HV2.out HSZ.out (by decide)).mono ?_); (exact h9.iz); (exact h8.iz); rintro e w11 ⟨b11, A11, n11, c11, A'11, n'11, c'11, rfl, h11, q11⟩
  replace h6 := h6.belw q11
  replace h8 := h8.belw q11
  replace h9 := h9.belw q11
  replace x1a := x1a.b q11
  replace x7a := x7a.b q11
  replace x9a := x9a.b q11
  have bw11 := bw10.trans (q11.mono bw10.size)
  have lw11 := q11.size
  clear q11 bw10
  obtain ⟨cx1aa, cx1ab, cx1ac⟩ := x1a.c3
  obtain ⟨fx1aa, fx1ab, fx1ac⟩ := x1a.f3
  obtain ⟨lx1aa, lx1ab, lx1ac, lx1ad⟩ := lts0 x1a.lt
  go_wp2_with fail
  refine bodyPost_ret (v := .tuple #[.agg #[.bool b11, .slice A11 n11 c11, .slice A'11 n'11 c'11], .nilIface]) (by simp [results, Tryz.results154, go_sem, *] <;> first | rfl | exact ⟨rfl, rfl⟩) rfl ?_
  exact ⟨_, _, _, _, _, _, _, rfl, ((h11).keep ((((Kp.refl w11).sb w.heap.size 0 x1a.box (by decide) (.bool b11)).sb w.heap.size 1 (x1a.box.set ⟨w.heap.size, 0, none⟩ (.bool b11)) (by decide) (.slice A11 n11 c11)).sb w.heap.size 2 ((x1a.box.set ⟨w.heap.size, 0, none⟩ (.bool b11)).set ⟨w.heap.size, 1, none⟩ (.slice A11 n11 c11)) (by decide) (.slice A'11 n'11 c'11))).mono (by decide), (((bw11.sc w.heap.size 0 (by omega) (.bool b11)).sc w.heap.size 1 (by omega) (.slice A11 n11 c11)).sc w.heap.size 2 (by omega) (.slice A'11 n'11 c'11))⟩
theorem t_value_quo0 (w : World) (s : List UInt8) (m : Bool) (D E : List UInt8) (hmx : Mx w) (h : s.length ≤ 60) (hn : numN s = s.length) (hD : isD D) (hE : isD E) (hs : s = sg m (D ++ 47 :: E)) (h0 : decVal E = 0) : Calls Tryz.prog 154 #[strV s] w (RetFe w (.iface 63 (.int .i64 8)) 0 130) := by
 have hszs := size_v s
 have hlen : ((60 : Int) < (s.length : Int)) = False := eq_false (by omega)
 have hhm := headM_sg (m := m) (r := (47 :: E)) hD
 have h1l : D.length + (1 + E.length) ≤ s.length := by rw [hs]; cases m <;> simp [sg] <;> omega
 have h2l : 0 < D.length := List.length_pos_iff.2 hD.1
 have hBS : (D ++ 47 :: E).length ≤ 60 := by first | omega | (simp; omega)
 rw [← hs] at hhm
 have HH := Lib.hid hhm
 have HC1 := Lib.hid (cut_at (b := E) (isD_no hD (c := 47) (by decide)))
 have HC2 := Lib.hid (cut_no (c := 46) (a := D ++ 47 :: E) (by
  intro hm
  rcases List.mem_append.1 hm with e | e
  ·exact isD_no hD (by decide) e
  ·rcases List.mem_cons.1 e with e | e
   ·exact absurd e (by decide)
   ·exact isD_no hE (by decide) e))
 have hNd : D.all isDg = true := hD.2
 obtain ⟨TN, hTN⟩ : ∃ TN, plainT D = TN := ⟨_, rfl⟩
 obtain ⟨hN1, hN2, hN3⟩ := plain_ok hNd
 rw [hTN] at hN1 hN2 hN3
 obtain ⟨zn, hzn⟩ : ∃ zn : Nat, decVal D = zn := ⟨_, rfl⟩
 rw [hzn] at hN2
 have hNl : TN.length ≤ 130 := by omega
 have HTN := Lib.hid hTN
 have HN := Lib.hid (And.intro hN1 (And.intro hN2 hNl))
 obtain ⟨TD, hTD⟩ : ∃ TD, plainT E = TD := ⟨_, rfl⟩
 obtain ⟨hM1, hM2, hM3⟩ := plain_ok hE.2
 rw [hTD] at hM1 hM2 hM3
 obtain ⟨zd, hzd⟩ : ∃ zd : Nat, decVal E = zd := ⟨_, rfl⟩
 rw [hzd] at hM2
 have hMl : TD.length ≤ 130 := by omega
 have hDz : zd < 4294967296 ^ 60 := by rw [← hzd]; exact dec_sz60 hE.2 (by omega)
 have HTD := Lib.hid hTD
 have HD := Lib.hid (And.intro hM1 (And.intro hM2 hMl))
 have hNz : zn < 4294967296 ^ 60 := by rw [← hzn]; exact dec_sz60 hNd (by omega)
 have hzd0 : (zd : Int) = 0 := by rw [hzd] at h0; omega
 obtain ⟨v, hv⟩ : ∃ v : Rat, 0 = v := ⟨_, rfl⟩
 skip
 have HV : Hid (Rat.divInt (sgI m (zn : Nat)) (zd : Nat) = v) := Lib.hid (by rw [← hv, hzd0, Rat.divInt_zero])
 have HSZ : Hid (Sz v 130) := Lib.hid (by rw [← hv]; exact ⟨by decide, by decide⟩)
 have HZ0 := Lib.hid hzd0
 have hn0 : ((s.length : Int) == 0) = false := beq_eq_false_iff_ne.2 (by omega)
 have hn00 : ((s.length : Int) = 0) = False := eq_false (by omega)
 have hsl : s.length < 4611686018427387904 := by omega
 have HBS := Lib.hid hBS
 clear hs hhm hNd hTN hN1 hN2 hN3 hNl hTD hM1 hM2 hMl hNz hDz hzd0 hv hzn hzd hBS h0
 have HmD := Lib.hid hD
 clear hD
 have HmE := Lib.hid hE
 clear hE
 cases m
 ·have HV2 : Hid (Rat.divInt ((zn : Int)) (zd : Int) = v) := Lib.hid HV.out
  clear HV
  go_enter Tryz.func154, Tryz.ntmps154
  go_wp2_with fail
  (with_reducible refine (t_number _ (s) hsl s.length hn).mono ?_); rintro e w1 ⟨rfl, hb1⟩
  have q1 := ((Below.refl _ _).alloc (Nat.le_refl _) _).trans (hb1.mono (by simp))
  have x1a : Blk w1 w.heap.size 72 #[.bool false, .slice none 0 0, .slice none 0 0] := (blkAt _ _ _ (by simp)).below hb1 (by simp)
  have bw1 := (brefl w).trans (q1.mono (brefl w).size)
  have lw1 : w.heap.size + 1 ≤ w1.heap.size := by have := hb1.size; simp at this; omega
  clear q1
  go_wp2_with fail
  (with_reducible refine (cutp_v _ (s) false (D ++ 47 :: E) HH.out.1 HH.out.2).mono ?_); rintro e w2 ⟨rfl, q2⟩
  replace x1a := x1a.b q2
  have bw2 := bw1.trans (q2.mono bw1.size)
  have lw2 := q2.size
  clear q2 bw1
  go_wp2_with fail
  (with_reducible refine (cut_v _ ((D ++ 47 :: E)) 47 D E true (hmx.belw bw2) (by have := HBS.out; omega) HC1.out).mono ?_); rintro e w3 ⟨rfl, q3⟩
  replace x1a := x1a.b q3
  have bw3 := bw2.trans (q3.mono bw2.size)
  have lw3 := q3.size
  clear q3 bw2
  go_wp2_with fail
  (with_reducible refine (cut_v _ ((D ++ 47 :: E)) 46 (D ++ 47 :: E) [] false (hmx.belw bw3) (by have := HBS.out; omega) HC2.out).mono ?_); rintro e w4 ⟨rfl, q4⟩
  replace x1a := x1a.b q4
  have bw4 := bw3.trans (q4.mono bw3.size)
  have lw4 := q4.size
  clear q4 bw3
  go_wp2_with fail
  (with_reducible refine (t_plain _ (D) TN HTN.out).mono ?_); rintro e w5 ⟨rfl, q5⟩
  replace x1a := x1a.b q5
  have bw5 := bw4.trans (q5.mono bw4.size)
  have lw5 := q5.size
  clear q5 bw4
  go_wp2_with fail
  (with_reducible refine (parse_d _ (TN) (zn : Nat) HN.out.1 HN.out.2.1 HN.out.2.2).mono ?_); rintro e w6 ⟨b6, A6, n6, c6, rfl, h6, q6⟩
  replace x1a := x1a.b q6
  have bw6 := bw5.trans (q6.mono bw5.size)
  have lw6 := q6.size
  clear q6 bw5
  go_wp2_with fail
  (with_reducible refine (t_plain _ (E) TD HTD.out).mono ?_); rintro e w7 ⟨rfl, hb7⟩
  have q7 := ((Below.refl _ _).alloc (Nat.le_refl _) _).trans (hb7.mono (by simp))
  replace h6 := h6.belw q7
  replace x1a := x1a.b q7
  have x7a : Blk w7 w6.heap.size 123 #[.bool b6, .slice A6 n6 c6] := (blkAt _ _ _ (by simp)).below hb7 (by simp)
  have bw7 := bw6.trans (q7.mono bw6.size)
  have lw7 : w6.heap.size + 1 ≤ w7.heap.size := by have := hb7.size; simp at this; omega
  clear q7 bw6
  go_wp2_with fail
  (with_reducible refine (parse_d _ (TD) (zd : Nat) HD.out.1 HD.out.2.1 HD.out.2.2).mono ?_); rintro e w8 ⟨b8, A8, n8, c8, rfl, h8, q8⟩
  replace h6 := h6.belw q8
  replace x1a := x1a.b q8
  replace x7a := x7a.b q8
  have bw8 := bw7.trans (q8.mono bw7.size)
  have lw8 := q8.size
  clear q8 bw7
  obtain ⟨cx7aa, cx7ab⟩ := x7a.c2
  obtain ⟨lx7aa, lx7ab, lx7ac, lx7ad⟩ := lts0 x7a.lt
  go_wp2_with fail
  (with_reducible refine (f_from_0 _ b6 A6 n6 c6 (((zn : Nat) : Int)) (130) ?_ b8 A8 n8 c8 (((zd : Nat) : Int)) (130) ?_ HZ0.out (by decide)).mono ?_); (exact (h6.belw ((Below.refl _ _).alloc (Nat.le_refl _) _)).iz); (exact (h8.belw ((Below.refl _ _).alloc (Nat.le_refl _) _)).iz); rintro e w9 ⟨b9, A9, n9, c9, A'9, n'9, c'9, rfl, h9, hb9⟩
  clear cx7aa cx7ab lx7aa lx7ab lx7ac lx7ad
  have q9 := ((Below.refl _ _).alloc (Nat.le_refl _) _).trans (hb9.mono (by simp))
  replace h6 := h6.belw q9
  replace h8 := h8.belw q9
  replace x1a := x1a.b q9
  replace x7a := x7a.b q9
  have x9a : Blk w9 w8.heap.size 123 #[.bool b8, .slice A8 n8 c8] := (blkAt _ _ _ (by simp)).below hb9 (by simp)
  have bw9 := bw8.trans (q9.mono bw8.size)
  have lw9 : w8.heap.size + 1 ≤ w9.heap.size := by have := hb9.size; simp at this; omega
  clear q9 bw8
  obtain ⟨cx1aa, cx1ab, cx1ac⟩ := x1a.c3
  obtain ⟨fx1aa, fx1ab, fx1ac⟩ := x1a.f3
  obtain ⟨lx1aa, lx1ab, lx1ac, lx1ad⟩ := lts0 x1a.lt
  go_wp2_with fail
  refine bodyPost_ret (v := .tuple #[.agg #[.bool b9, .slice A9 n9 c9, .slice A'9 n'9 c'9], .iface 63 (.int .i64 8)]) (by simp [results, Tryz.results154, go_sem, *] <;> first | rfl | exact ⟨rfl, rfl⟩) rfl ?_
  exact ⟨_, _, _, _, _, _, _, rfl, ((h9).keep ((((Kp.refl w9).sb w.heap.size 0 x1a.box (by decide) (.bool b9)).sb w.heap.size 1 (x1a.box.set ⟨w.heap.size, 0, none⟩ (.bool b9)) (by decide) (.slice A9 n9 c9)).sb w.heap.size 2 ((x1a.box.set ⟨w.heap.size, 0, none⟩ (.bool b9)).set ⟨w.heap.size, 1, none⟩ (.slice A9 n9 c9)) (by decide) (.slice A'9 n'9 c'9))).mono (by decide), (((bw9.sc w.heap.size 0 (by omega) (.bool b9)).sc w.heap.size 1 (by omega) (.slice A9 n9 c9)).sc w.heap.size 2 (by omega) (.slice A'9 n'9 c'9))⟩
 ·have HV2 : Hid (Rat.divInt (-(zn : Int)) (zd : Int) = v) := Lib.hid HV.out
  clear HV
  go_enter Tryz.func154, Tryz.ntmps154
  go_wp2_with fail
  (with_reducible refine (t_number _ (s) hsl s.length hn).mono ?_); rintro e w1 ⟨rfl, hb1⟩
  have q1 := ((Below.refl _ _).alloc (Nat.le_refl _) _).trans (hb1.mono (by simp))
  have x1a : Blk w1 w.heap.size 72 #[.bool false, .slice none 0 0, .slice none 0 0] := (blkAt _ _ _ (by simp)).below hb1 (by simp)
  have bw1 := (brefl w).trans (q1.mono (brefl w).size)
  have lw1 : w.heap.size + 1 ≤ w1.heap.size := by have := hb1.size; simp at this; omega
  clear q1
  go_wp2_with fail
  (with_reducible refine (cutp_v _ (s) true (D ++ 47 :: E) HH.out.1 HH.out.2).mono ?_); rintro e w2 ⟨rfl, q2⟩
  replace x1a := x1a.b q2
  have bw2 := bw1.trans (q2.mono bw1.size)
  have lw2 := q2.size
  clear q2 bw1
  go_wp2_with fail
  (with_reducible refine (cut_v _ ((D ++ 47 :: E)) 47 D E true (hmx.belw bw2) (by have := HBS.out; omega) HC1.out).mono ?_); rintro e w3 ⟨rfl, q3⟩
  replace x1a := x1a.b q3
  have bw3 := bw2.trans (q3.mono bw2.size)
  have lw3 := q3.size
  clear q3 bw2
  go_wp2_with fail
  (with_reducible refine (cut_v _ ((D ++ 47 :: E)) 46 (D ++ 47 :: E) [] false (hmx.belw bw3) (by have := HBS.out; omega) HC2.out).mono ?_); rintro e w4 ⟨rfl, q4⟩
  replace x1a := x1a.b q4
  have bw4 := bw3.trans (q4.mono bw3.size)
  have lw4 := q4.size
  clear q4 bw3
  go_wp2_with fail
  (with_reducible refine (t_plain _ (D) TN HTN.out).mono ?_); rintro e w5 ⟨rfl, q5⟩
  replace x1a := x1a.b q5
  have bw5 := bw4.trans (q5.mono bw4.size)
  have lw5 := q5.size
  clear q5 bw4
  go_wp2_with fail
  (with_reducible refine (parse_d _ (TN) (zn : Nat) HN.out.1 HN.out.2.1 HN.out.2.2).mono ?_); rintro e w6 ⟨b6, A6, n6, c6, rfl, h6, q6⟩
  replace x1a := x1a.b q6
  have bw6 := bw5.trans (q6.mono bw5.size)
  have lw6 := q6.size
  clear q6 bw5
  go_wp2_with fail
  (with_reducible refine (t_plain _ (E) TD HTD.out).mono ?_); rintro e w7 ⟨rfl, hb7⟩
  have q7 := ((Below.refl _ _).alloc (Nat.le_refl _) _).trans (hb7.mono (by simp))
  replace h6 := h6.belw q7
  replace x1a := x1a.b q7
  have x7a : Blk w7 w6.heap.size 123 #[.bool b6, .slice A6 n6 c6] := (blkAt _ _ _ (by simp)).below hb7 (by simp)
  have bw7 := bw6.trans (q7.mono bw6.size)
  have lw7 : w6.heap.size + 1 ≤ w7.heap.size := by have := hb7.size; simp at this; omega
  clear q7 bw6
  go_wp2_with fail
  (with_reducible refine (parse_d _ (TD) (zd : Nat) HD.out.1 HD.out.2.1 HD.out.2.2).mono ?_); rintro e w8 ⟨b8, A8, n8, c8, rfl, h8, q8⟩
  replace h6 := h6.belw q8
  replace x1a := x1a.b q8
  replace x7a := x7a.b q8
  have bw8 := bw7.trans (q8.mono bw7.size)
  have lw8 := q8.size
  clear q8 bw7
  obtain ⟨cx7aa, cx7ab⟩ := x7a.c2
  obtain ⟨lx7aa, lx7ab, lx7ac, lx7ad⟩ := lts0 x7a.lt
  go_wp2_with fail
  (with_reducible refine (i_neg _ b6 A6 n6 c6 (((zn : Nat) : Int)) (130) ?_ ?_).mono ?_); (exact (h6.belw ((Below.refl _ _).alloc (Nat.le_refl _) _)).iz); (first | omega | decide | assumption); rintro e w9 ⟨b9, A9, n9, c9, rfl, h9, hb9⟩
  clear cx7aa cx7ab lx7aa lx7ab lx7ac lx7ad
  have q9 := ((Below.refl _ _).alloc (Nat.le_refl _) _).trans (hb9.mono (by simp))
  replace h6 := h6.belw q9
  replace h8 := h8.belw q9
  replace x1a := x1a.b q9
  replace x7a := x7a.b q9
  have x9a : Blk w9 w8.heap.size 123 #[.bool b8, .slice A8 n8 c8] := (blkAt _ _ _ (by simp)).below hb9 (by simp)
  have bw9 := bw8.trans (q9.mono bw8.size)
  have lw9 : w8.heap.size + 1 ≤ w9.heap.size := by have := hb9.size; simp at this; omega
  clear q9 bw8
  obtain ⟨cx7aa, cx7ab⟩ := x7a.c2
  obtain ⟨fx7aa, fx7ab⟩ := x7a.f2
  obtain ⟨lx7aa, lx7ab, lx7ac, lx7ad⟩ := lts0 x7a.lt
  obtain ⟨cx9aa, cx9ab⟩ := x9a.c2
  obtain ⟨lx9aa, lx9ab, lx9ac, lx9ad⟩ := lts0 x9a.lt
  go_wp2_with fail
  clear cx7aa fx7aa cx7ab fx7ab lx7aa lx7ab lx7ac lx7ad cx9aa cx9ab lx9aa lx9ab lx9ac lx9ad
  have p10 := (((Kp.refl w9).sb w6.heap.size 0 x7a.box (by decide) (.bool b9)).sb w6.heap.size 1 (x7a.box.set ⟨w6.heap.size, 0, none⟩ (.bool b9)) (by decide) (.slice A9 n9 c9))
  have bw10 := ((bw9.sc w6.heap.size 0 (by omega) (.bool b9)).sc w6.heap.size 1 (by omega) (.slice A9 n9 c9))
  replace x1a := ((x1a.fr w6.heap.size 0 (by omega) (.bool b9)).fr w6.heap.size 1 (by omega) (.slice A9 n9 c9))
  replace x7a := ((x7a.set_at 0 (.bool b9) #[.bool b9, .slice A6 n6 c6] (by simp)).set_at 1 (.slice A9 n9 c9) #[.bool b9, .slice A9 n9 c9] (by simp))
  replace x9a := ((x9a.fr w6.heap.size 0 (by omega) (.bool b9)).fr w6.heap.size 1 (by omega) (.slice A9 n9 c9))
  have lw10 : w9.heap.size + 0 ≤ ((w9.setCell ⟨w6.heap.size, 0, none⟩ (.bool b9)).setCell ⟨w6.heap.size, 1, none⟩ (.slice A9 n9 c9)).heap.size := by simp
  generalize hE10 : ((w9.setCell ⟨w6.heap.size, 0, none⟩ (.bool b9)).setCell ⟨w6.heap.size, 1, none⟩ (.slice A9 n9 c9)) = w10 at p10 bw10 lw10 x1a x7a x9a ⊢
  clear hE10
  replace h6 := h6.keep p10
  replace h8 := h8.keep p10
  replace h9 := h9.keep p10
  clear bw9
  (with_reducible refine (f_from_0 _ b9 A9 n9 c9 (-(((zn : Nat) : Int))) ((130)) ?_ b8 A8 n8 c8 (((zd : Nat) : Int)) (130) ?_ HZ0.out (by decide)).mono ?_); (exact h9.iz); (exact h8.iz); rintro e w11 ⟨b11, A11, n11, c11, A'11, n'11, c'11, rfl, h11, q11⟩
  replace h6 := h6.belw q11
  replace h8 := h8.belw q11
  replace h9 := h9.belw q11
  replace x1a := x1a.b q11
  replace x7a := x7a.b q11
  replace x9a := x9a.b q11
  have bw11 := bw10.trans (q11.mono bw10.size)
  have lw11 := q11.size
  clear q11 bw10
  obtain ⟨cx1aa, cx1ab, cx1ac⟩ := x1a.c3
  obtain ⟨fx1aa, fx1ab, fx1ac⟩ := x1a.f3
  obtain ⟨lx1aa, lx1ab, lx1ac, lx1ad⟩ := lts0 x1a.lt
  go_wp2_with fail
  refine bodyPost_ret (v := .tuple #[.agg #[.bool b11, .slice A11 n11 c11, .slice A'11 n'11 c'11], .iface 63 (.int .i64 8)]) (by simp [results, Tryz.results154, go_sem, *] <;> first | rfl | exact ⟨rfl, rfl⟩) rfl ?_
  exact ⟨_, _, _, _, _, _, _, rfl, ((h11).keep ((((Kp.refl w11).sb w.heap.size 0 x1a.box (by decide) (.bool b11)).sb w.heap.size 1 (x1a.box.set ⟨w.heap.size, 0, none⟩ (.bool b11)) (by decide) (.slice A11 n11 c11)).sb w.heap.size 2 ((x1a.box.set ⟨w.heap.size, 0, none⟩ (.bool b11)).set ⟨w.heap.size, 1, none⟩ (.slice A11 n11 c11)) (by decide) (.slice A'11 n'11 c'11))).mono (by decide), (((bw11.sc w.heap.size 0 (by omega) (.bool b11)).sc w.heap.size 1 (by omega) (.slice A11 n11 c11)).sc w.heap.size 2 (by omega) (.slice A'11 n'11 c'11))⟩
theorem t_value_quo (w : World) (s : List UInt8) (m : Bool) (D E : List UInt8) (hmx : Mx w) (h : s.length ≤ 60) (hn : numN s = s.length) (hD : isD D) (hE : isD E) (hs : s = sg m (D ++ 47 :: E)) (h0 : decVal E ≠ 0) : Calls Tryz.prog 154 #[strV s] w (RetFe w .nilIface (Rat.divInt (sgI m (decVal D)) (decVal E)) 130) := by
 have hszs := size_v s
 have hlen : ((60 : Int) < (s.length : Int)) = False := eq_false (by omega)
 have hhm := headM_sg (m := m) (r := (47 :: E)) hD
 have h1l : D.length + (1 + E.length) ≤ s.length := by rw [hs]; cases m <;> simp [sg] <;> omega
 have h2l : 0 < D.length := List.length_pos_iff.2 hD.1
 have hBS : (D ++ 47 :: E).length ≤ 60 := by first | omega | (simp; omega)
 rw [← hs] at hhm
 have HH := Lib.hid hhm
 have HC1 := Lib.hid (cut_at (b := E) (isD_no hD (c := 47) (by decide)))
 have HC2 := Lib.hid (cut_no (c := 46) (a := D ++ 47 :: E) (by
  intro hm
  rcases List.mem_append.1 hm with e | e
  ·exact isD_no hD (by decide) e
  ·rcases List.mem_cons.1 e with e | e
   ·exact absurd e (by decide)
   ·exact isD_no hE (by decide) e))
 have hNd : D.all isDg = true := hD.2
 obtain ⟨TN, hTN⟩ : ∃ TN, plainT D = TN := ⟨_, rfl⟩
 obtain ⟨hN1, hN2, hN3⟩ := plain_ok hNd
 rw [hTN] at hN1 hN2 hN3
 obtain ⟨zn, hzn⟩ : ∃ zn : Nat, decVal D = zn := ⟨_, rfl⟩
 rw [hzn] at hN2
 have hNl : TN.length ≤ 130 := by omega
 have HTN := Lib.hid hTN
 have HN := Lib.hid (And.intro hN1 (And.intro hN2 hNl))
 obtain ⟨TD, hTD⟩ : ∃ TD, plainT E = TD := ⟨_, rfl⟩
 obtain ⟨hM1, hM2, hM3⟩ := plain_ok hE.2
 rw [hTD] at hM1 hM2 hM3
 obtain ⟨zd, hzd⟩ : ∃ zd : Nat, decVal E = zd := ⟨_, rfl⟩
 rw [hzd] at hM2
 have hMl : TD.length ≤ 130 := by omega
 have hDz : zd < 4294967296 ^ 60 := by rw [← hzd]; exact dec_sz60 hE.2 (by omega)
 have HTD := Lib.hid hTD
 have HD := Lib.hid (And.intro hM1 (And.intro hM2 hMl))
 have hNz : zn < 4294967296 ^ 60 := by rw [← hzn]; exact dec_sz60 hNd (by omega)
 rw [hzn, hzd]
 have hzd0 : (zd : Int) ≠ 0 := by rw [hzd] at h0; omega
 obtain ⟨v, hv⟩ : ∃ v : Rat, Rat.divInt (sgI m (zn : Nat)) (zd : Nat) = v := ⟨_, rfl⟩
 rw [hv]
 have HV : Hid (Rat.divInt (sgI m (zn : Nat)) (zd : Nat) = v) := Lib.hid (hv)
 have HSZ : Hid (Sz v 130) := Lib.hid (by rw [← HV.out]; exact Sz_divInt (by rw [sgI_abs]; exact Nat.lt_trans hNz (Nat.pow_lt_pow_right (by decide) (by decide))) (by rw [Int.natAbs_natCast]; exact Nat.lt_trans hDz (Nat.pow_lt_pow_right (by decide) (by decide))) (by decide))
 have HZ0 := Lib.hid hzd0
 have hn0 : ((s.length : Int) == 0) = false := beq_eq_false_iff_ne.2 (by omega)
 have hn00 : ((s.length : Int) = 0) = False := eq_false (by omega)
 have hsl : s.length < 4611686018427387904 := by omega
 have HBS := Lib.hid hBS
 clear hs hhm hNd hTN hN1 hN2 hN3 hNl hTD hM1 hM2 hMl hNz hDz hzd0 hv hzn hzd hBS h0
 have HmD := Lib.hid hD
 clear hD
 have HmE := Lib.hid hE
 clear hE
 cases m
 ·have HV2 : Hid (Rat.divInt ((zn : Int)) (zd : Int) = v) := Lib.hid HV.out
  clear HV
  go_enter Tryz.func154, Tryz.ntmps154
  go_wp2_with fail
  (with_reducible refine (t_number _ (s) hsl s.length hn).mono ?_); rintro e w1 ⟨rfl, hb1⟩
  have q1 := ((Below.refl _ _).alloc (Nat.le_refl _) _).trans (hb1.mono (by simp))
  have x1a : Blk w1 w.heap.size 72 #[.bool false, .slice none 0 0, .slice none 0 0] := (blkAt _ _ _ (by simp)).below hb1 (by simp)
  have bw1 := (brefl w).trans (q1.mono (brefl w).size)
  have lw1 : w.heap.size + 1 ≤ w1.heap.size := by have := hb1.size; simp at this; omega
  clear q1
  go_wp2_with fail
  (with_reducible refine (cutp_v _ (s) false (D ++ 47 :: E) HH.out.1 HH.out.2).mono ?_); rintro e w2 ⟨rfl, q2⟩
  replace x1a := x1a.b q2
  have bw2 := bw1.trans (q2.mono bw1.size)
  have lw2 := q2.size
  clear q2 bw1
  go_wp2_with fail
  (with_reducible refine (cut_v _ ((D ++ 47 :: E)) 47 D E true (hmx.belw bw2) (by have := HBS.out; omega) HC1.out).mono ?_); rintro e w3 ⟨rfl, q3⟩
  replace x1a := x1a.b q3
  have bw3 := bw2.trans (q3.mono bw2.size)
  have lw3 := q3.size
  clear q3 bw2
  go_wp2_with fail
  (with_reducible refine (cut_v _ ((D ++ 47 :: E)) 46 (D ++ 47 :: E) [] false (hmx.belw bw3) (by have := HBS.out; omega) HC2.out).mono ?_); rintro e w4 ⟨rfl, q4⟩
  replace x1a := x1a.b q4
  have bw4 := bw3.trans (q4.mono bw3.size)
  have lw4 := q4.size
  clear q4 bw3
  go_wp2_with fail
  (with_reducible refine (t_plain _ (D) TN HTN.out).mono ?_); rintro e w5 ⟨rfl, q5⟩
  replace x1a := x1a.b q5
  have bw5 := bw4.trans (q5.mono bw4.size)
  have lw5 := q5.size
  clear q5 bw4
  go_wp2_with fail
  (with_reducible refine (parse_d _ (TN) (zn : Nat) HN.out.1 HN.out.2.1 HN.out.2.2).mono ?_); rintro e w6 ⟨b6, A6, n6, c6, rfl, h6, q6⟩
  replace x1a := x1a.b q6
  have bw6 := bw5.trans (q6.mono bw5.size)
  have lw6 := q6.size
  clear q6 bw5
  go_wp2_with fail
  (with_reducible refine (t_plain _ (E) TD HTD.out).mono ?_); rintro e w7 ⟨rfl, hb7⟩
  have q7 := ((Below.refl _ _).alloc (Nat.le_refl _) _).trans (hb7.mono (by simp))
  replace h6 := h6.belw q7
  replace x1a := x1a.b q7
  have x7a : Blk w7 w6.heap.size 123 #[.bool b6, .slice A6 n6 c6] := (blkAt _ _ _ (by simp)).below hb7 (by simp)
  have bw7 := bw6.trans (q7.mono bw6.size)
  have lw7 : w6.heap.size + 1 ≤ w7.heap.size := by have := hb7.size; simp at this; omega
  clear q7 bw6
  go_wp2_with fail
  (with_reducible refine (parse_d _ (TD) (zd : Nat) HD.out.1 HD.out.2.1 HD.out.2.2).mono ?_); rintro e w8 ⟨b8, A8, n8, c8, rfl, h8, q8⟩
  replace h6 := h6.belw q8
  replace x1a := x1a.b q8
  replace x7a := x7a.b q8
  have bw8 := bw7.trans (q8.mono bw7.size)
  have lw8 := q8.size
  clear q8 bw7
  obtain ⟨cx7aa, cx7ab⟩ := x7a.c2
  obtain ⟨lx7aa, lx7ab, lx7ac, lx7ad⟩ := lts0 x7a.lt
  go_wp2_with fail
  (with_reducible refine (f_from _ b6 A6 n6 c6 (((zn : Nat) : Int)) (130) ?_ b8 A8 n8 c8 (((zd : Nat) : Int)) (130) ?_ v 130 HZ0.out HV2.out HSZ.out (by decide)).mono ?_); (exact (h6.belw ((Below.refl _ _).alloc (Nat.le_refl _) _)).iz); (exact (h8.belw ((Below.refl _ _).alloc (Nat.le_refl _) _)).iz); rintro e w9 ⟨b9, A9, n9, c9, A'9, n'9, c'9, rfl, h9, hb9⟩
  clear cx7aa cx7ab lx7aa lx7ab lx7ac lx7ad
  have q9 := ((Below.refl _ _).alloc (Nat.le_refl _) _).trans (hb9.mono (by simp))
  replace h6 := h6.belw q9
  replace h8 := h8.belw q9
  replace x1a := x1a.b q9
  replace x7a := x7a.b q9
  have x9a : Blk w9 w8.heap.size 123 #[.bool b8, .slice A8 n8 c8] := (blkAt _ _ _ (by simp)).below hb9 (by simp)
  have bw9 := bw8.trans (q9.mono bw8.size)
  have lw9 : w8.heap.size + 1 ≤ w9.heap.size := by have := hb9.size; simp at this; omega
  clear q9 bw8
  obtain ⟨cx1aa, cx1ab, cx1ac⟩ := x1a.c3
  obtain ⟨fx1aa, fx1ab, fx1ac⟩ := x1a.f3
  obtain ⟨lx1aa, lx1ab, lx1ac, lx1ad⟩ := lts0 x1a.lt
  go_wp2_with fail
  refine bodyPost_ret (v := .tuple #[.agg #[.bool b9, .slice A9 n9 c9, .slice A'9 n'9 c'9], .nilIface]) (by simp [results, Tryz.results154, go_sem, *] <;> first | rfl | exact ⟨rfl, rfl⟩) rfl ?_
  exact ⟨_, _, _, _, _, _, _, rfl, ((h9).keep ((((Kp.refl w9).sb w.heap.size 0 x1a.box (by decide) (.bool b9)).sb w.heap.size 1 (x1a.box.set ⟨w.heap.size, 0, none⟩ (.bool b9)) (by decide) (.slice A9 n9 c9)).sb w.heap.size 2 ((x1a.box.set ⟨w.heap.size, 0, none⟩ (.bool b9)).set ⟨w.heap.size, 1, none⟩ (.slice A9 n9 c9)) (by decide) (.slice A'9 n'9 c'9))).mono (by decide), (((bw9.sc w.heap.size 0 (by omega) (.bool b9)).sc w.heap.size 1 (by omega) (.slice A9 n9 c9)).sc w.heap.size 2 (by omega) (.slice A'9 n'9 c'9))⟩
 ·have HV2 : Hid (Rat.divInt (-(zn : Int)) (zd : Int) = v) := Lib.hid HV.out
  clear HV
  go_enter Tryz.func154, Tryz.ntmps154
  go_wp2_with fail
  (with_reducible refine (t_number _ (s) hsl s.length hn).mono ?_); rintro e w1 ⟨rfl, hb1⟩
  have q1 := ((Below.refl _ _).alloc (Nat.le_refl _) _).trans (hb1.mono (by simp))
  have x1a : Blk w1 w.heap.size 72 #[.bool false, .slice none 0 0, .slice none 0 0] := (blkAt _ _ _ (by simp)).below hb1 (by simp)
  have bw1 := (brefl w).trans (q1.mono (brefl w).size)
  have lw1 : w.heap.size + 1 ≤ w1.heap.size := by have := hb1.size; simp at this; omega
  clear q1
  go_wp2_with fail
  (with_reducible refine (cutp_v _ (s) true (D ++ 47 :: E) HH.out.1 HH.out.2).mono ?_); rintro e w2 ⟨rfl, q2⟩
  replace x1a := x1a.b q2
  have bw2 := bw1.trans (q2.mono bw1.size)
  have lw2 := q2.size
  clear q2 bw1
  go_wp2_with fail
  (with_reducible refine (cut_v _ ((D ++ 47 :: E)) 47 D E true (hmx.belw bw2) (by have := HBS.out; omega) HC1.out).mono ?_); rintro e w3 ⟨rfl, q3⟩
  replace x1a := x1a.b q3
  have bw3 := bw2.trans (q3.mono bw2.size)
  have lw3 := q3.size
  clear q3 bw2
  go_wp2_with fail
  (with_reducible refine (cut_v _ ((D ++ 47 :: E)) 46 (D ++ 47 :: E) [] false (hmx.belw bw3) (by have := HBS.out; omega) HC2.out).mono ?_); rintro e w4 ⟨rfl, q4⟩
  replace x1a := x1a.b q4
  have bw4 := bw3.trans (q4.mono bw3.size)
  have lw4 := q4.size
  clear q4 bw3
  go_wp2_with fail
  (with_reducible refine (t_plain _ (D) TN HTN.out).mono ?_); rintro e w5 ⟨rfl, q5⟩
  replace x1a := x1a.b q5
  have bw5 := bw4.trans (q5.mono bw4.size)
  have lw5 := q5.size
  clear q5 bw4
  go_wp2_with fail
  (with_reducible refine (parse_d _ (TN) (zn : Nat) HN.out.1 HN.out.2.1 HN.out.2.2).mono ?_); rintro e w6 ⟨b6, A6, n6, c6, rfl, h6, q6⟩
  replace x1a := x1a.b q6
  have bw6 := bw5.trans (q6.mono bw5.size)
  have lw6 := q6.size
  clear q6 bw5
  go_wp2_with fail
  (with_reducible refine (t_plain _ (E) TD HTD.out).mono ?_); rintro e w7 ⟨rfl, hb7⟩
  have q7 := ((Below.refl _ _).alloc (Nat.le_refl _) _).trans (hb7.mono (by simp))
  replace h6 := h6.belw q7
  replace x1a := x1a.b q7
  have x7a : Blk w7 w6.heap.size 123 #[.bool b6, .slice A6 n6 c6] := (blkAt _ _ _ (by simp)).below hb7 (by simp)
  have bw7 := bw6.trans (q7.mono bw6.size)
  have lw7 : w6.heap.size + 1 ≤ w7.heap.size := by have := hb7.size; simp at this; omega
  clear q7 bw6
  go_wp2_with fail
  (with_reducible refine (parse_d _ (TD) (zd : Nat) HD.out.1 HD.out.2.1 HD.out.2.2).mono ?_); rintro e w8 ⟨b8, A8, n8, c8, rfl, h8, q8⟩
  replace h6 := h6.belw q8
  replace x1a := x1a.b q8
  replace x7a := x7a.b q8
  have bw8 := bw7.trans (q8.mono bw7.size)
  have lw8 := q8.size
  clear q8 bw7
  obtain ⟨cx7aa, cx7ab⟩ := x7a.c2
  obtain ⟨lx7aa, lx7ab, lx7ac, lx7ad⟩ := lts0 x7a.lt
  go_wp2_with fail
  (with_reducible refine (i_neg _ b6 A6 n6 c6 (((zn : Nat) : Int)) (130) ?_ ?_).mono ?_); (exact (h6.belw ((Below.refl _ _).alloc (Nat.le_refl _) _)).iz); (first | omega | decide | assumption); rintro e w9 ⟨b9, A9, n9, c9, rfl, h9, hb9⟩
  clear cx7aa cx7ab lx7aa lx7ab lx7ac lx7ad
  have q9 := ((Below.refl _ _).alloc (Nat.le_refl _) _).trans (hb9.mono (by simp))
  replace h6 := h6.belw q9
  replace h8 := h8.belw q9
  replace x1a := x1a.b q9
  replace x7a := x7a.b q9
  have x9a : Blk w9 w8.heap.size 123 #[.bool b8, .slice A8 n8 c8] := (blkAt _ _ _ (by simp)).below hb9 (by simp)
  have bw9 := bw8.trans (q9.mono bw8.size)
  have lw9 : w8.heap.size + 1 ≤ w9.heap.size := by have := hb9.size; simp at this; omega
  clear q9 bw8
  obtain ⟨cx7aa, cx7ab⟩ := x7a.c2
  obtain ⟨fx7aa, fx7ab⟩ := x7a.f2
  obtain ⟨lx7aa, lx7ab, lx7ac, lx7ad⟩ := lts0 x7a.lt
  obtain ⟨cx9aa, cx9ab⟩ := x9a.c2
  obtain ⟨lx9aa, lx9ab, lx9ac, lx9ad⟩ := lts0 x9a.lt
  go_wp2_with fail
  clear cx7aa fx7aa cx7ab fx7ab lx7aa lx7ab lx7ac lx7ad cx9aa cx9ab lx9aa lx9ab lx9ac lx9ad
  have p10 := (((Kp.refl w9).sb w6.heap.size 0 x7a.box (by decide) (.bool b9)).sb w6.heap.size 1 (x7a.box.set ⟨w6.heap.size, 0, none⟩ (.bool b9)) (by decide) (.slice A9 n9 c9))
  have bw10 := ((bw9.sc w6.heap.size 0 (by omega) (.bool b9)).sc w6.heap.size 1 (by omega) (.slice A9 n9 c9))
  replace x1a := ((x1a.fr w6.heap.size 0 (by omega) (.bool b9)).fr w6.heap.size 1 (by omega) (.slice A9 n9 c9))
  replace x7a := ((x7a.set_at 0 (.bool b9) #[.bool b9, .slice A6 n6 c6] (by simp)).set_at 1 (.slice A9 n9 c9) #[.bool b9, .slice A9 n9 c9] (by simp))
  replace x9a := ((x9a.fr w6.heap.size 0 (by omega) (.bool b9)).fr w6.heap.size 1 (by omega) (.slice A9 n9 c9))
  have lw10 : w9.heap.size + 0 ≤ ((w9.setCell ⟨w6.heap.size, 0, none⟩ (.bool b9)).setCell ⟨w6.heap.size, 1, none⟩ (.slice A9 n9 c9)).heap.size := by simp
  generalize hE10 : ((w9.setCell ⟨w6.heap.size, 0, none⟩ (.bool b9)).setCell ⟨w6.heap.size, 1, none⟩ (.slice A9 n9 c9)) = w10 at p10 bw10 lw10 x1a x7a x9a ⊢
  clear hE10
  replace h6 := h6.keep p10
  replace h8 := h8.keep p10
  replace h9 := h9.keep p10
  clear bw9
  (with_reducible refine (f_from _ b9 A9 n9 c9 (-(((zn : Nat) : Int))) ((130)) ?_ b8 A8 n8 c8 (((zd : Nat) : Int)) (130) ?_ v 130 HZ0.out HV2.out HSZ.out (by decide)).mono ?_); (exact h9.iz); (exact h8.iz); rintro e w11 ⟨b11, A11, n11, c11, A'11, n'11, c'11, rfl, h11, q11⟩
  replace h6 := h6.belw q11
  replace h8 := h8.belw q11
  replace h9 := h9.belw q11
  replace x1a := x1a.b q11
  replace x7a := x7a.b q11
  replace x9a := x9a.b q11
  have bw11 := bw10.trans (q11.mono bw10.size)
  have lw11 := q11.size
  clear q11 bw10
  obtain ⟨cx1aa, cx1ab, cx1ac⟩ := x1a.c3
  obtain ⟨fx1aa, fx1ab, fx1ac⟩ := x1a.f3
  obtain ⟨lx1aa, lx1ab, lx1ac, lx1ad⟩ := lts0 x1a.lt
  go_wp2_with fail
  refine bodyPost_ret (v := .tuple #[.agg #[.bool b11, .slice A11 n11 c11, .slice A'11 n'11 c'11], .nilIface]) (by simp [results, Tryz.results154, go_sem, *] <;> first | rfl | exact ⟨rfl, rfl⟩) rfl ?_
  exact ⟨_, _, _, _, _, _, _, rfl, ((h11).keep ((((Kp.refl w11).sb w.heap.size 0 x1a.box (by decide) (.bool b11)).sb w.heap.size 1 (x1a.box.set ⟨w.heap.size, 0, none⟩ (.bool b11)) (by decide) (.slice A11 n11 c11)).sb w.heap.size 2 ((x1a.box.set ⟨w.heap.size, 0, none⟩ (.bool b11)).set ⟨w.heap.size, 1, none⟩ (.slice A11 n11 c11)) (by decide) (.slice A'11 n'11 c'11))).mono (by decide), (((bw11.sc w.heap.size 0 (by omega) (.bool b11)).sc w.heap.size 1 (by omega) (.slice A11 n11 c11)).sc w.heap.size 2 (by omega) (.slice A'11 n'11 c'11))⟩
theorem t_value_dot (w : World) (s : List UInt8) (m : Bool) (D E : List UInt8) (hmx : Mx w) (h : s.length ≤ 60) (hn : numN s = s.length) (hD : isD D) (hE : isD E) (hs : s = sg m (D ++ 46 :: E)) : Calls Tryz.prog 154 #[strV s] w (RetFe w .nilIface (Rat.divInt (sgI m (decVal (D ++ E))) ((10 ^ E.length : Nat) : Int)) 130) := by
 have hszs := size_v s
 have hlen : ((60 : Int) < (s.length : Int)) = False := eq_false (by omega)
 have hhm := headM_sg (m := m) (r := (46 :: E)) hD
 have h1l : D.length + (1 + E.length) ≤ s.length := by rw [hs]; cases m <;> simp [sg] <;> omega
 have h2l : 0 < D.length := List.length_pos_iff.2 hD.1
 have hBS : (D ++ 46 :: E).length ≤ 60 := by first | omega | (simp; omega)
 rw [← hs] at hhm
 have HH := Lib.hid hhm
 have HC2 := Lib.hid (cut_at (b := E) (isD_no hD (c := 46) (by decide)))
 have HC1 := Lib.hid (cut_no (c := 47) (a := D ++ 46 :: E) (by
  intro hm
  rcases List.mem_append.1 hm with e | e
  ·exact isD_no hD (by decide) e
  ·rcases List.mem_cons.1 e with e | e
   ·exact absurd e (by decide)
   ·exact isD_no hE (by decide) e))
 have hNd : (D ++ E).all isDg = true := by rw [List.all_append, hD.2, hE.2]; rfl
 obtain ⟨TN, hTN⟩ : ∃ TN, plainT (D ++ E) = TN := ⟨_, rfl⟩
 obtain ⟨hN1, hN2, hN3⟩ := plain_ok hNd
 rw [hTN] at hN1 hN2 hN3
 obtain ⟨zn, hzn⟩ : ∃ zn : Nat, decVal (D ++ E) = zn := ⟨_, rfl⟩
 rw [hzn] at hN2
 have hNl : TN.length ≤ 130 := by have : (D ++ E).length = D.length + E.length := List.length_append; omega
 have HTN := Lib.hid hTN
 have HN := Lib.hid (And.intro hN1 (And.intro hN2 hNl))
 obtain ⟨Z, hZ⟩ : ∃ Z : List UInt8, List.replicate E.length 48 = Z := ⟨_, rfl⟩
 obtain ⟨TD, hTD⟩ : ∃ TD, plainT (49 :: Z) = TD := ⟨_, rfl⟩
 obtain ⟨t1, t2, t3⟩ := ten_pow_val E.length
 obtain ⟨hM1, hM2, hM3⟩ := plain_ok t3
 rw [hZ] at t1 t2 hM1 hM2 hM3
 rw [hTD] at hM1 hM2 hM3
 obtain ⟨zd, hzd⟩ : ∃ zd : Nat, 10 ^ E.length = zd := ⟨_, rfl⟩
 rw [t2, hzd] at hM2
 have hZl : Z.length = E.length := by rw [← hZ]; simp
 have hMl : TD.length ≤ 130 := by rw [List.length_cons] at hM3; omega
 have hDz : zd < 4294967296 ^ 60 := by
  rw [← hzd]
  have h2 : (10 : Nat) ^ E.length ≤ 10 ^ 60 := Nat.pow_le_pow_right (by decide) (by omega)
  have h3 : (10 : Nat) ^ 60 < 4294967296 ^ 60 := by decide
  omega
 have ha1 := app_v D E
 have ha2 := app_v [49] Z
 have hk1 : (9223372036854775807 < D.length + E.length) = False := eq_false (by omega)
 have hk2 : (9223372036854775807 < 1 + Z.length) = False := eq_false (by omega)
 have HZ := Lib.hid hZ
 clear hZ t1 t2 t3
 have HTD := Lib.hid hTD
 have HD := Lib.hid (And.intro hM1 (And.intro hM2 hMl))
 have hNz : zn < 4294967296 ^ 60 := by rw [← hzn]; exact dec_sz60 hNd (by have : (D ++ E).length = D.length + E.length := List.length_append; omega)
 rw [hzn, hzd]
 have hzd0 : (zd : Int) ≠ 0 := by rw [← hzd]; have := Nat.pow_pos (n := E.length) (show 0 < 10 by decide); omega
 obtain ⟨v, hv⟩ : ∃ v : Rat, Rat.divInt (sgI m (zn : Nat)) (zd : Nat) = v := ⟨_, rfl⟩
 rw [hv]
 have HV : Hid (Rat.divInt (sgI m (zn : Nat)) (zd : Nat) = v) := Lib.hid (hv)
 have HSZ : Hid (Sz v 130) := Lib.hid (by rw [← HV.out]; exact Sz_divInt (by rw [sgI_abs]; exact Nat.lt_trans hNz (Nat.pow_lt_pow_right (by decide) (by decide))) (by rw [Int.natAbs_natCast]; exact Nat.lt_trans hDz (Nat.pow_lt_pow_right (by decide) (by decide))) (by decide))
 have HZ0 := Lib.hid hzd0
 have hn0 : ((s.length : Int) == 0) = false := beq_eq_false_iff_ne.2 (by omega)
 have hn00 : ((s.length : Int) = 0) = False := eq_false (by omega)
 have hsl : s.length < 4611686018427387904 := by omega
 have HBS := Lib.hid hBS
 clear hs hhm hNd hTN hN1 hN2 hN3 hNl hTD hM1 hM2 hMl hNz hDz hzd0 hv hzn hzd hBS
 have HmD := Lib.hid hD
 clear hD
 have HmE := Lib.hid hE
 clear hE
 cases m
 ·have HV2 : Hid (Rat.divInt ((zn : Int)) (zd : Int) = v) := Lib.hid HV.out
  clear HV
  go_enter Tryz.func154, Tryz.ntmps154
  go_wp2_with fail
  (with_reducible refine (t_number _ (s) hsl s.length hn).mono ?_); rintro e w1 ⟨rfl, hb1⟩
  have q1 := ((Below.refl _ _).alloc (Nat.le_refl _) _).trans (hb1.mono (by simp))
  have x1a : Blk w1 w.heap.size 72 #[.bool false, .slice none 0 0, .slice none 0 0] := (blkAt _ _ _ (by simp)).below hb1 (by simp)
  have bw1 := (brefl w).trans (q1.mono (brefl w).size)
  have lw1 : w.heap.size + 1 ≤ w1.heap.size := by have := hb1.size; simp at this; omega
  clear q1
  go_wp2_with fail
  (with_reducible refine (cutp_v _ (s) false (D ++ 46 :: E) HH.out.1 HH.out.2).mono ?_); rintro e w2 ⟨rfl, q2⟩
  replace x1a := x1a.b q2
  have bw2 := bw1.trans (q2.mono bw1.size)
  have lw2 := q2.size
  clear q2 bw1
  go_wp2_with fail
  (with_reducible refine (cut_v _ ((D ++ 46 :: E)) 47 (D ++ 46 :: E) [] false (hmx.belw bw2) (by have := HBS.out; omega) HC1.out).mono ?_); rintro e w3 ⟨rfl, q3⟩
  replace x1a := x1a.b q3
  have bw3 := bw2.trans (q3.mono bw2.size)
  have lw3 := q3.size
  clear q3 bw2
  go_wp2_with fail
  (with_reducible refine (cut_v _ ((D ++ 46 :: E)) 46 D E true (hmx.belw bw3) (by have := HBS.out; omega) HC2.out).mono ?_); rintro e w4 ⟨rfl, q4⟩
  replace x1a := x1a.b q4
  have bw4 := bw3.trans (q4.mono bw3.size)
  have lw4 := q4.size
  clear q4 bw3
  go_wp2_with fail
  (with_reducible refine (rep_v _ E.length (by omega) Z HZ.out).mono ?_); rintro e w5 ⟨rfl, q5⟩
  replace x1a := x1a.b q5
  have bw5 := bw4.trans (q5.mono bw4.size)
  have lw5 := q5.size
  clear q5 bw4
  go_wp2_with fail
  (with_reducible refine (t_plain _ ((D ++ E)) TN HTN.out).mono ?_); rintro e w6 ⟨rfl, q6⟩
  replace x1a := x1a.b q6
  have bw6 := bw5.trans (q6.mono bw5.size)
  have lw6 := q6.size
  clear q6 bw5
  go_wp2_with fail
  (with_reducible refine (parse_d _ (TN) (zn : Nat) HN.out.1 HN.out.2.1 HN.out.2.2).mono ?_); rintro e w7 ⟨b7, A7, n7, c7, rfl, h7, q7⟩
  replace x1a := x1a.b q7
  have bw7 := bw6.trans (q7.mono bw6.size)
  have lw7 := q7.size
  clear q7 bw6
  go_wp2_with fail
  (with_reducible refine (t_plain _ ((49 :: Z)) TD HTD.out).mono ?_); rintro e w8 ⟨rfl, hb8⟩
  have q8 := ((Below.refl _ _).alloc (Nat.le_refl _) _).trans (hb8.mono (by simp))
  replace h7 := h7.belw q8
  replace x1a := x1a.b q8
  have x8a : Blk w8 w7.heap.size 123 #[.bool b7, .slice A7 n7 c7] := (blkAt _ _ _ (by simp)).below hb8 (by simp)
  have bw8 := bw7.trans (q8.mono bw7.size)
  have lw8 : w7.heap.size + 1 ≤ w8.heap.size := by have := hb8.size; simp at this; omega
  clear q8 bw7
  go_wp2_with fail
  (with_reducible refine (parse_d _ (TD) (zd : Nat) HD.out.1 HD.out.2.1 HD.out.2.2).mono ?_); rintro e w9 ⟨b9, A9, n9, c9, rfl, h9, q9⟩
  replace h7 := h7.belw q9
  replace x1a := x1a.b q9
  replace x8a := x8a.b q9
  have bw9 := bw8.trans (q9.mono bw8.size)
  have lw9 := q9.size
  clear q9 bw8
  obtain ⟨cx8aa, cx8ab⟩ := x8a.c2
  obtain ⟨lx8aa, lx8ab, lx8ac, lx8ad⟩ := lts0 x8a.lt
  go_wp2_with fail
  (with_reducible refine (f_from _ b7 A7 n7 c7 (((zn : Nat) : Int)) (130) ?_ b9 A9 n9 c9 (((zd : Nat) : Int)) (130) ?_ v 130 HZ0.out HV2.out HSZ.out (by decide)).mono ?_); (exact (h7.belw ((Below.refl _ _).alloc (Nat.le_refl _) _)).iz); (exact (h9.belw ((Below.refl _ _).alloc (Nat.le_refl _) _)).iz); rintro e w10 ⟨b10, A10, n10, c10, A'10, n'10, c'10, rfl, h10, hb10⟩
  clear cx8aa cx8ab lx8aa lx8ab lx8ac lx8ad
  have q10 := ((Below.refl _ _).alloc (Nat.le_refl _) _).trans (hb10.mono (by simp))
  replace h7 := h7.belw q10
  replace h9 := h9.belw q10
  replace x1a := x1a.b q10
  replace x8a := x8a.b q10
  have x10a : Blk w10 w9.heap.size 123 #[.bool b9, .slice A9 n9 c9] := (blkAt _ _ _ (by simp)).below hb10 (by simp)
  have bw10 := bw9.trans (q10.mono bw9.size)
  have lw10 : w9.heap.size + 1 ≤ w10.heap.size := by have := hb10.size; simp at this; omega
  clear q10 bw9
  obtain ⟨cx1aa, cx1ab, cx1ac⟩ := x1a.c3
  obtain ⟨fx1aa, fx1ab, fx1ac⟩ := x1a.f3
  obtain ⟨lx1aa, lx1ab, lx1ac, lx1ad⟩ := lts0 x1a.lt
  go_wp2_with fail
  refine bodyPost_ret (v := .tuple #[.agg #[.bool b10, .slice A10 n10 c10, .slice A'10 n'10 c'10], .nilIface]) (by simp [results, Tryz.results154, go_sem, *] <;> first | rfl | exact ⟨rfl, rfl⟩) rfl ?_
  exact ⟨_, _, _, _, _, _, _, rfl, ((h10).keep ((((Kp.refl w10).sb w.heap.size 0 x1a.box (by decide) (.bool b10)).sb w.heap.size 1 (x1a.box.set ⟨w.heap.size, 0, none⟩ (.bool b10)) (by decide) (.slice A10 n10 c10)).sb w.heap.size 2 ((x1a.box.set ⟨w.heap.size, 0, none⟩ (.bool b10)).set ⟨w.heap.size, 1, none⟩ (.slice A10 n10 c10)) (by decide) (.slice A'10 n'10 c'10))).mono (by decide), (((bw10.sc w.heap.size 0 (by omega) (.bool b10)).sc w.heap.size 1 (by omega) (.slice A10 n10 c10)).sc w.heap.size 2 (by omega) (.slice A'10 n'10 c'10))⟩
 ·have HV2 : Hid (Rat.divInt (-(zn : Int)) (zd : Int) = v) := Lib.hid HV.out
  clear HV
  go_enter Tryz.func154, Tryz.ntmps154
  go_wp2_with fail
  (with_reducible refine (t_number _ (s) hsl s.length hn).mono ?_); rintro e w1 ⟨rfl, hb1⟩
  have q1 := ((Below.refl _ _).alloc (Nat.le_refl _) _).trans (hb1.mono (by simp))
  have x1a : Blk w1 w.heap.size 72 #[.bool false, .slice none 0 0, .slice none 0 0] := (blkAt _ _ _ (by simp)).below hb1 (by simp)
  have bw1 := (brefl w).trans (q1.mono (brefl w).size)
  have lw1 : w.heap.size + 1 ≤ w1.heap.size := by have := hb1.size; simp at this; omega
  clear q1
  go_wp2_with fail
  (with_reducible refine (cutp_v _ (s) true (D ++ 46 :: E) HH.out.1 HH.out.2).mono ?_); rintro e w2 ⟨rfl, q2⟩
  replace x1a := x1a.b q2
  have bw2 := bw1.trans (q2.mono bw1.size)
  have lw2 := q2.size
  clear q2 bw1
  go_wp2_with fail
  (with_reducible refine (cut_v _ ((D ++ 46 :: E)) 47 (D ++ 46 :: E) [] false (hmx.belw bw2) (by have := HBS.out; omega) HC1.out).mono ?_); rintro e w3 ⟨rfl, q3⟩
  replace x1a := x1a.b q3
  have bw3 := bw2.trans (q3.mono bw2.size)
  have lw3 := q3.size
  clear q3 bw2
  go_wp2_with fail
  (with_reducible refine (cut_v _ ((D ++ 46 :: E)) 46 D E true (hmx.belw bw3) (by have := HBS.out; omega) HC2.out).mono ?_); rintro e w4 ⟨rfl, q4⟩
  replace x1a := x1a.b q4
  have bw4 := bw3.trans (q4.mono bw3.size)
  have lw4 := q4.size
  clear q4 bw3
  go_wp2_with fail
  (with_reducible refine (rep_v _ E.length (by omega) Z HZ.out).mono ?_); rintro e w5 ⟨rfl, q5⟩
  replace x1a := x1a.b q5
  have bw5 := bw4.trans (q5.mono bw4.size)
  have lw5 := q5.size
  clear q5 bw4
  go_wp2_with fail
  (with_reducible refine (t_plain _ ((D ++ E)) TN HTN.out).mono ?_); rintro e w6 ⟨rfl, q6⟩
  replace x1a := x1a.b q6
  have bw6 := bw5.trans (q6.mono bw5.size)
  have lw6 := q6.size
  clear q6 bw5
  go_wp2_with fail
  (with_reducible refine (parse_d _ (TN) (zn : Nat) HN.out.1 HN.out.2.1 HN.out.2.2).mono ?_); rintro e w7 ⟨b7, A7, n7, c7, rfl, h7, q7⟩
  replace x1a := x1a.b q7
  have bw7 := bw6.trans (q7.mono bw6.size)
  have lw7 := q7.size
  clear q7 bw6
  go_wp2_with fail
  (with_reducible refine (t_plain _ ((49 :: Z)) TD HTD.out).mono ?_); rintro e w8 ⟨rfl, hb8⟩
  have q8 := ((Below.refl _ _).alloc (Nat.le_refl _) _).trans (hb8.mono (by simp))
  replace h7 := h7.belw q8
  replace x1a := x1a.b q8
  have x8a : Blk w8 w7.heap.size 123 #[.bool b7, .slice A7 n7 c7] := (blkAt _ _ _ (by simp)).below hb8 (by simp)
  have bw8 := bw7.trans (q8.mono bw7.size)
  have lw8 : w7.heap.size + 1 ≤ w8.heap.size := by have := hb8.size; simp at this; omega
  clear q8 bw7
  go_wp2_with fail
  (with_reducible refine (parse_d _ (TD) (zd : Nat) HD.out.1 HD.out.2.1 HD.out.2.2).mono ?_); rintro e w9 ⟨b9, A9, n9, c9, rfl, h9, q9⟩
  replace h7 := h7.belw q9
  replace x1a := x1a.b q9
  replace x8a := x8a.b q9
  have bw9 := bw8.trans (q9.mono bw8.size)
  have lw9 := q9.size
  clear q9 bw8
  obtain ⟨cx8aa, cx8ab⟩ := x8a.c2
  obtain ⟨lx8aa, lx8ab, lx8ac, lx8ad⟩ := lts0 x8a.lt
  go_wp2_with fail
  (with_reducible refine (i_neg _ b7 A7 n7 c7 (((zn : Nat) : Int)) (130) ?_ ?_).mono ?_); (exact (h7.belw ((Below.refl _ _).alloc (Nat.le_refl _) _)).iz); (first | omega | decide | assumption); rintro e w10 ⟨b10, A10, n10, c10, rfl, h10, hb10⟩
  clear cx8aa cx8ab lx8aa lx8ab lx8ac lx8ad
  have q10 := ((Below.refl _ _).alloc (Nat.le_refl _) _).trans (hb10.mono (by simp))
  replace h7 := h7.belw q10
  replace h9 := h9.belw q10
  replace x1a := x1a.b q10
  replace x8a := x8a.b q10
  have x10a : Blk w10 w9.heap.size 123 #[.bool b9, .slice A9 n9 c9] := (blkAt _ _ _ (by simp)).below hb10 (by simp)
  have bw10 := bw9.trans (q10.mono bw9.size)
  have lw10 : w9.heap.size + 1 ≤ w10.heap.size := by have := hb10.size; simp at this; omega
  clear q10 bw9
  obtain ⟨cx8aa, cx8ab⟩ := x8a.c2
  obtain ⟨fx8aa, fx8ab⟩ := x8a.f2
  obtain ⟨lx8aa, lx8ab, lx8ac, lx8ad⟩ := lts0 x8a.lt
  obtain ⟨cx10aa, cx10ab⟩ := x10a.c2
  obtain ⟨lx10aa, lx10ab, lx10ac, lx10ad⟩ := lts0 x10a.lt
  go_wp2_with fail
  clear cx8aa fx8aa cx8ab fx8ab lx8aa lx8ab lx8ac lx8ad cx10aa cx10ab lx10aa lx10ab lx10ac lx10ad
  have p11 := (((Kp.refl w10).sb w7.heap.size 0 x8a.box (by decide) (.bool b10)).sb w7.heap.size 1 (x8a.box.set ⟨w7.heap.size, 0, none⟩ (.bool b10)) (by decide) (.slice A10 n10 c10))
  have bw11 := ((bw10.sc w7.heap.size 0 (by omega) (.bool b10)).sc w7.heap.size 1 (by omega) (.slice A10 n10 c10))
  replace x1a := ((x1a.fr w7.heap.size 0 (by omega) (.bool b10)).fr w7.heap.size 1 (by omega) (.slice A10 n10 c10))
  replace x8a := ((x8a.set_at 0 (.bool b10) #[.bool b10, .slice A7 n7 c7] (by simp)).set_at 1 (.slice A10 n10 c10) #[.bool b10, .slice A10 n10 c10] (by simp))
  replace x10a := ((x10a.fr w7.heap.size 0 (by omega) (.bool b10)).fr w7.heap.size 1 (by omega) (.slice A10 n10 c10))
  have lw11 : w10.heap.size + 0 ≤ ((w10.setCell ⟨w7.heap.size, 0, none⟩ (.bool b10)).setCell ⟨w7.heap.size, 1, none⟩ (.slice A10 n10 c10)).heap.size := by simp
  generalize hE11 : ((w10.setCell ⟨w7.heap.size, 0, none⟩ (.bool b10)).setCell ⟨w7.heap.size, 1, none⟩ (.slice A10 n10 c10)) = w11 at p11 bw11 lw11 x1a x8a x10a ⊢
  clear hE11
  replace h7 := h7.keep p11
  replace h9 := h9.keep p11
  replace h10 := h10.keep p11
  clear bw10
  (with_reducible refine (f_from _ b10 A10 n10 c10 (-(((zn : Nat) : Int))) ((130)) ?_ b9 A9 n9 c9 (((zd : Nat) : Int)) (130) ?_ v 130 HZ0.out HV2.out HSZ.out (by decide)).mono ?_); (exact h10.iz); (exact h9.iz); rintro e w12 ⟨b12, A12, n12, c12, A'12, n'12, c'12, rfl, h12, q12⟩
  replace h7 := h7.belw q12
  replace h9 := h9.belw q12
  replace h10 := h10.belw q12
  replace x1a := x1a.b q12
  replace x8a := x8a.b q12
  replace x10a := x10a.b q12
  have bw12 := bw11.trans (q12.mono bw11.size)
  have lw12 := q12.size
  clear q12 bw11
  obtain ⟨cx1aa, cx1ab, cx1ac⟩ := x1a.c3
  obtain ⟨fx1aa, fx1ab, fx1ac⟩ := x1a.f3
  obtain ⟨lx1aa, lx1ab, lx1ac, lx1ad⟩ := lts0 x1a.lt
  go_wp2_with fail
  refine bodyPost_ret (v := .tuple #[.agg #[.bool b12, .slice A12 n12 c12, .slice A'12 n'12 c'12], .nilIface]) (by simp [results, Tryz.results154, go_sem, *] <;> first | rfl | exact ⟨rfl, rfl⟩) rfl ?_
  exact ⟨_, _, _, _, _, _, _, rfl, ((h12).keep ((((Kp.refl w12).sb w.heap.size 0 x1a.box (by decide) (.bool b12)).sb w.heap.size 1 (x1a.box.set ⟨w.heap.size, 0, none⟩ (.bool b12)) (by decide) (.slice A12 n12 c12)).sb w.heap.size 2 ((x1a.box.set ⟨w.heap.size, 0, none⟩ (.bool b12)).set ⟨w.heap.size, 1, none⟩ (.slice A12 n12 c12)) (by decide) (.slice A'12 n'12 c'12))).mono (by decide), (((bw12.sc w.heap.size 0 (by omega) (.bool b12)).sc w.heap.size 1 (by omega) (.slice A12 n12 c12)).sc w.heap.size 2 (by omega) (.slice A'12 n'12 c'12))⟩
end Go.Proofs.YtoiijifnfdgfpaaGreatDoor

/- Walks: tokens: what opens the laws. -/
namespace Go.Proofs.YtoiijifnfdgfpaaGreatDoor
open Go Go.RowKit Bn
attribute [local go_sem ↓] Go.wp_at_zero Go.wp_at_succ
theorem errV_88 : errV 8 = .iface 63 (.int .i64 8) := if_neg (by decide)
theorem t_value_o (w : World) (s : List UInt8) (x : Int) (q : Rat) (hmx : Mx w) (h : ValOut s x q) : Calls Tryz.prog 154 #[strV s] w (RetFe w (errV x) q 130) := by
  have hm : ∀ {v : Value} {e : Ending} {w' : World}, RetFe w v q 1 e w' → RetFe w v q 130 e w' := fun h => by
    obtain ⟨b, A, n, c, A', n', c', h1, h2, h3⟩ := h
    exact ⟨b, A, n, c, A', n', c', h1, h2.mono (by decide), h3⟩
  rcases h with ⟨h, rfl, rfl⟩ | ⟨h, hb, rfl, rfl⟩ | ⟨m, D, h, hn, hD, hs, rfl, rfl⟩ | ⟨m, D, E, h, hn, hD, hE, hs, h0, rfl, rfl⟩ | ⟨m, D, E, h, hn, hD, hE, hs, h0, rfl, rfl⟩ | ⟨m, D, E, h, hn, hD, hE, hs, rfl, rfl⟩
  · rw [errV_4]; exact (t_value_large w s h).mono fun _ _ r => hm r
  · rw [errV_2]; exact (t_value_bad w s h hb).mono fun _ _ r => hm r
  · rw [errV_0]; exact t_value_whole w s m D hmx h hn hD hs
  · rw [errV_88]; exact t_value_quo0 w s m D E hmx h hn hD hE hs h0
  · rw [errV_0]; exact t_value_quo w s m D E hmx h hn hD hE hs h0
  · rw [errV_0]; exact t_value_dot w s m D E hmx h hn hD hE hs
theorem t_split_x (w : World) (s : List UInt8) (x : Int) (l : List Tkn) (h : SplitOut s x l) : Calls Tryz.prog 23 #[strV s] w (RetTks w (errV x) l) :=
  (t_split w s).mono fun _ _ ⟨x', l', h', r⟩ => by
    obtain ⟨rfl, rfl⟩ := h.uniq h'
    exact r
theorem r_split_x (w : World) (s : List UInt8) (x : Int) (l : List Tkn) (h : SplitOut s x l) : Calls Tryz.prog 22 #[strV s] w (RetTks w (.int .i64 x) l) :=
  (r_split w s).mono fun _ _ ⟨x', l', h', r⟩ => by
    obtain ⟨rfl, rfl⟩ := h.uniq h'
    exact r
end Go.Proofs.YtoiijifnfdgfpaaGreatDoor

/- Walks: linkages: what is wrong with one: joints, drivers, all (program). -/
namespace Go.Proofs.YtoiijifnfdgfpaaGreatDoor
open Go Go.RowKit Bn
attribute [local go_sem ↓] Go.wp_at_zero Go.wp_at_succ
theorem m_joint (w : World) (A : Option Addr) (n c : Nat) (B : Option Addr) (p d : Nat) (C : Option Addr) (q e : Nat) (nm : List UInt8) (j : JointL) (L : LinkL) (k : Nat) (h : SlS (BdAt k) 2 w A n c L.bodies) (hk : k ≤ 10000000) (hk1 : 0 < k) (hn : n ≤ 1000) (x : Int) (hx : jointE L j = x) :
    Calls Tryz.prog 103 #[.agg #[strV nm, .slice A n c, .slice B p d, .slice C q e], .agg #[strV j.name, .int .i64 j.kind, .int .i64 j.a, .int .i64 j.point, .int .i64 j.b, .int .i64 j.on, .int .i64 j.to_]] w (RetV w (errV x)) := by
  by_cases h0 : j.kind = 0
  · exact m_joint_0 w A n c B p d C q e nm j L k h hk hk1 hn h0 x hx
  · by_cases h1 : j.kind = 1
    · exact m_joint_1 w A n c B p d C q e nm j L k h hk hk1 hn h1 x hx
    · subst hx
      rw [show jointE L j = 7 from if_pos ⟨h0, h1⟩]
      exact m_joint_7 w A n c B p d C q e nm j ⟨h0, h1⟩
theorem m_joints (w : World) (A : Option Addr) (n c : Nat) (B : Option Addr) (p d : Nat) (C : Option Addr) (q e : Nat) (L : LinkL) (k : Nat) (h : LkS k w A n c B p d C q e L) (hk : k ≤ 10000000) (hk1 : 0 < k) (hn : n ≤ 1000) (x : Int) (hx : (if 16 < L.joints.length then 4 else errs (jointErr L) [] L.joints) = x) : Calls Tryz.prog 60 #[.agg #[strV L.name, .slice A n c, .slice B p d, .slice C q e]] w (RetV w (errV x)) := by
 have hln := h.joints.1
 have hlb := h.bodies.1
 by_cases h8 : 16 < p
 ·have f8 : ((16 : Int) < (p : Int)) = True := eq_true (by omega)
  have h4 : x = 4 := by rw [← hx, if_pos (by rw [hln]; exact h8)]
  clear hln hlb
  go_enter Tryz.func60, Tryz.ntmps60
  go_wp2_with fail
  go_ret
  exact ⟨by rw [h4]; rfl, (brefl w).alloc (Nat.le_refl _) _⟩
 have f8 : ((16 : Int) < (p : Int)) = False := eq_false (by omega)
 have hbd : p ≤ 16 := by omega
 rw [if_neg (by rw [hln]; exact h8)] at hx
 have hnc := h.joints.2.1
 have HX := Lib.hid (errs_start hx)
 have HLN := Lib.hid hln
 have HLB := Lib.hid hlb
 clear hx hln hlb h8
 go_enter Tryz.func60, Tryz.ntmps60
 go_wp2_with fail
 go_loopw [16] (fun iv wr => ∃ i : Nat, iv = .int .i64 (i : Nat) ∧ i ≤ p ∧ Hid (errs (jointErr L) (L.joints.take i) (L.joints.drop i) = x) ∧ Blk wr w.heap.size 36 #[strV L.name, .slice A n c, .slice B p d, .slice C q e] ∧ Below w.heap.size w wr) (fun iv _ => p - (intOf iv).toNat)
 case atStart => exact ⟨0, rfl, Nat.zero_le _, HX, blkAt _ _ _ (by simp), (brefl w).alloc (Nat.le_refl _) _⟩
 case round =>
  clear HX
  obtain ⟨i, rfl, hi, HX, xL, hb⟩ := hrel
  rename World => wa
  rcases Nat.lt_or_ge i p with hlt | hge
  ·have hi1 : ((i : Int) < (p : Int)) = True := by simp; omega
   have hL := h.belw hb
   obtain ⟨g, o, b, e1, hg, _, hbi, hB⟩ := hL.joints.at_ hlt
   subst e1
   have hstep := errs_step HX.out hbi
   obtain ⟨c0, c1, c2, c3, c4, c5, c6, hnm⟩ := hB
   have HL := Lib.hid hL
   have HS := Lib.hid hstep
   have HN := Lib.hid hnm
   obtain ⟨v, hv⟩ : ∃ v, nameOk b.name = v := ⟨_, rfl⟩
   have HV := Lib.hid hv
   have hlL : w.heap.size < wa.heap.size := xL.lt
   clear h hL hstep hnm hbi hv HX
   go_wp2_with fail
   (with_reducible refine (t_name _ b.name HN.out v HV.out).mono ?_); rintro e' w1 ⟨rfl, hb1⟩
   have q1 := ((Below.refl _ _).alloc (Nat.le_refl _) _).trans (hb1.mono (by simp))
   have x1 : Blk w1 wa.heap.size 60 #[strV b.name, .int .i64 b.kind, .int .i64 b.a, .int .i64 b.point, .int .i64 b.b, .int .i64 b.on, .int .i64 b.to_] := (blkAt _ _ _ (by simp)).below hb1 (by simp)
   have xL1 := xL.below q1 xL.lt
   have bw1 := hb.trans (q1.mono hb.size)
   clear hb1 c0 c1 c2 c3 c4 c5 c6
   have hxz : ∀ z : Int, z ≠ 0 → (jointErr L) (L.joints.take i) b = z → x = z := fun z hz hm => by
    rcases HS.out with ⟨u, _⟩ | ⟨_, u⟩
    ·exact absurd (hm.symm.trans u) hz
    ·exact u.symm.trans hm
   cases v
   ·have h5 : x = 5 := hxz 5 (by decide) (if_pos HV.out)
    clear hxz
    go_wp2_with fail
    go_ret
    exact ⟨by rw [h5]; rfl, bw1⟩
   ·have HXZ := Lib.hid hxz
    clear hxz
    have cL := xL1.cell 2
    go_wp2_with fail
    clear cL
    go_loopw [31] (fun jv wr => ∃ j : Nat, jv = .int .i64 (j : Nat) ∧ j ≤ i ∧ Hid (twN ((L.joints.take j).map JointL.name) b.name = false) ∧ Below w1.heap.size w1 wr) (fun jv _ => i - (intOf jv).toNat)
    case atStart => exact ⟨0, rfl, Nat.zero_le _, Lib.hid rfl, brefl w1⟩
    case round =>
     obtain ⟨j, rfl, hj, HT, hb2⟩ := hrel
     rename World => w2
     have x2 := x1.below hb2 x1.lt
     have xL2 := xL1.below hb2 xL1.lt
     have bw2 := bw1.trans (hb2.mono bw1.size)
     have cB0 := x2.cell 0
     have hlw : wa.heap.size < w2.heap.size := x2.lt
     have hlL2 : w.heap.size < w2.heap.size := xL2.lt
     rcases Nat.lt_or_ge j i with hjl | hjg
     ·have hj1 : ((j : Int) < (i : Int)) = True := by simp; omega
      have hjn : j < p := by omega
      obtain ⟨a, ha, hA⟩ := ((HL.out.joints.jt q1).jt hb2).rowAt hjn
      obtain ⟨d0, d1, d2, d3, d4, d5, d6, hn2⟩ := hA
      have hgw : g < w2.heap.size := by have := hb2.size; have := q1.size; omega
      clear hn2
      have hne1 : ¬ wa.heap.size = w2.heap.size := by omega
      have hne2 : ¬ g = w2.heap.size := by omega
      have htl := toList_v b.name
      by_cases heq : a.name = b.name
      ·have h6 : x = 6 := HXZ.out 6 (by decide) (by
        show jointErr L (L.joints.take i) b = 6
        unfold jointErr
        rw [HV.out, if_neg (by decide), if_pos (twM_hit ha hjl heq)])
       rw [heq] at d0
       have hee : (b.name == b.name) = true := by simp
       clear heq ha
       go_wp2_with fail
       go_ret
       exact ⟨by rw [h6]; rfl, bw2.alloc bw2.size _⟩
      ·have hta := toList_v a.name
       have HT2 := Lib.hid (twM_step ha HT.out heq)
       have hee : (a.name == b.name) = false := beq_eq_false_iff_ne.2 heq
       clear heq ha HT
       go_wp2_with fail
       go_roundw
       case rel => exact ⟨j + 1, by go_num, by omega, HT2, hb2.alloc hb2.size _⟩
       case measure => simp [intOf]; omega
     ·have hj1 : ((j : Int) < (i : Int)) = False := by simp; omega
      obtain rfl : j = i := by omega
      clear cB0
      have cL0 := xL2.cell 0
      have cL1 := xL2.cell 1
      have cL2 := xL2.cell 2
      have cL3 := xL2.cell 3
      have z0 := x2.cell 0
      have z1 := x2.cell 1
      have z2 := x2.cell 2
      have z3 := x2.cell 3
      have z4 := x2.cell 4
      have z5 := x2.cell 5
      have z6 := x2.cell 6
      obtain ⟨y, hy⟩ : ∃ y, jointE L b = y := ⟨_, rfl⟩
      have HE : Hid (jointErr L (L.joints.take j) b = y) := Lib.hid (by
       unfold jointErr
       rw [HV.out, if_neg (by decide), HT.out, if_neg (by decide)]; exact hy)
      have HY := Lib.hid hy
      clear hy
      go_wp2_with fail
      (with_reducible refine (m_joint _ A n c _ p d C q e L.name b L k ((HL.out.bodies.bd q1).bd hb2) hk hk1 hn y HY.out).mono ?_); rintro e' w3 ⟨rfl, hb3⟩
      have bw3 := bw2.trans (hb3.mono bw2.size)
      have xL3 := xL2.below hb3 xL2.lt
      clear cL0 cL1 cL2 cL3 z0 z1 z2 z3 z4 z5 z6
      by_cases hy0 : y = 0
      ·have HX2 : Hid (errs (jointErr L) (L.joints.take (j + 1)) (L.joints.drop (j + 1)) = x) := Lib.hid (by
        rcases HS.out with ⟨_, u⟩ | ⟨u, _⟩
        ·exact u
        ·exact absurd (HE.out.trans hy0) u)
       subst hy0
       rw [show errV 0 = .nilIface from if_pos rfl]
       go_wp2_with fail
       go_roundw
       case rel => exact ⟨j + 1, by go_num, by omega, HX2, xL3, bw3⟩
       case measure => simp [intOf]; omega
      ·have hxy : x = y := HXZ.out y hy0 HE.out
       rw [show errV y = .iface 63 (.int .i64 y) from if_neg hy0]
       go_wp2_with fail
       go_ret
       exact ⟨by rw [hxy, show errV y = .iface 63 (.int .i64 y) from if_neg hy0]; rfl, bw3⟩
  ·have hi1 : ((i : Int) < (p : Int)) = False := by simp; omega
   have hx0 : x = 0 := errs_end HX.out (by rw [HLN.out]; exact hge)
   go_wp2_with fail
   go_ret
   exact ⟨by rw [hx0]; rfl, hb⟩
theorem m_drivers (w : World) (A : Option Addr) (n c : Nat) (B : Option Addr) (p d : Nat) (C : Option Addr) (q e : Nat) (L : LinkL) (k : Nat) (h : LkS k w A n c B p d C q e L) (hk : k ≤ 10000000) (hk1 : 0 < k) (hn : n ≤ 1000) (x : Int) (hx : (if 2 < L.drivers.length then 4 else errs (driverErr n) [] L.drivers) = x) : Calls Tryz.prog 61 #[.agg #[strV L.name, .slice A n c, .slice B p d, .slice C q e]] w (RetV w (errV x)) := by
 have hln := h.drivers.1
 have hlb := h.bodies.1
 by_cases h8 : 2 < q
 ·have f8 : ((2 : Int) < (q : Int)) = True := eq_true (by omega)
  have h4 : x = 4 := by rw [← hx, if_pos (by rw [hln]; exact h8)]
  clear hln hlb
  go_enter Tryz.func61, Tryz.ntmps61
  go_wp2_with fail
  go_ret
  exact ⟨by rw [h4]; rfl, (brefl w).alloc (Nat.le_refl _) _⟩
 have f8 : ((2 : Int) < (q : Int)) = False := eq_false (by omega)
 have hbd : q ≤ 2 := by omega
 rw [if_neg (by rw [hln]; exact h8)] at hx
 have hnc := h.drivers.2.1
 have HX := Lib.hid (errs_start hx)
 have HLN := Lib.hid hln
 have HLB := Lib.hid hlb
 clear hx hln hlb h8
 go_enter Tryz.func61, Tryz.ntmps61
 go_wp2_with fail
 go_loopw [17] (fun iv wr => ∃ i : Nat, iv = .int .i64 (i : Nat) ∧ i ≤ q ∧ Hid (errs (driverErr n) (L.drivers.take i) (L.drivers.drop i) = x) ∧ Blk wr w.heap.size 36 #[strV L.name, .slice A n c, .slice B p d, .slice C q e] ∧ Below w.heap.size w wr) (fun iv _ => q - (intOf iv).toNat)
 case atStart => exact ⟨0, rfl, Nat.zero_le _, HX, blkAt _ _ _ (by simp), (brefl w).alloc (Nat.le_refl _) _⟩
 case round =>
  clear HX
  obtain ⟨i, rfl, hi, HX, xL, hb⟩ := hrel
  rename World => wa
  rcases Nat.lt_or_ge i q with hlt | hge
  ·have hi1 : ((i : Int) < (q : Int)) = True := by simp; omega
   have hL := h.belw hb
   obtain ⟨g, o, b, e1, hg, _, hbi, hB⟩ := hL.drivers.at_ hlt
   subst e1
   have hstep := errs_step HX.out hbi
   obtain ⟨c0, c1, hnm⟩ := hB
   have HL := Lib.hid hL
   have HS := Lib.hid hstep
   have HN := Lib.hid hnm
   obtain ⟨v, hv⟩ : ∃ v, nameOk b.name = v := ⟨_, rfl⟩
   have HV := Lib.hid hv
   have hlL : w.heap.size < wa.heap.size := xL.lt
   clear h hL hstep hnm hbi hv HX
   go_wp2_with fail
   (with_reducible refine (t_name _ b.name HN.out v HV.out).mono ?_); rintro e' w1 ⟨rfl, hb1⟩
   have q1 := ((Below.refl _ _).alloc (Nat.le_refl _) _).trans (hb1.mono (by simp))
   have x1 : Blk w1 wa.heap.size 58 #[strV b.name, .int .i64 b.body] := (blkAt _ _ _ (by simp)).below hb1 (by simp)
   have xL1 := xL.below q1 xL.lt
   have bw1 := hb.trans (q1.mono hb.size)
   clear hb1 c0 c1
   have hxz : ∀ z : Int, z ≠ 0 → (driverErr n) (L.drivers.take i) b = z → x = z := fun z hz hm => by
    rcases HS.out with ⟨u, _⟩ | ⟨_, u⟩
    ·exact absurd (hm.symm.trans u) hz
    ·exact u.symm.trans hm
   cases v
   ·have h5 : x = 5 := hxz 5 (by decide) (if_pos HV.out)
    clear hxz
    go_wp2_with fail
    go_ret
    exact ⟨by rw [h5]; rfl, bw1⟩
   ·have HXZ := Lib.hid hxz
    clear hxz
    have cL := xL1.cell 3
    go_wp2_with fail
    clear cL
    go_loopw [32] (fun jv wr => ∃ j : Nat, jv = .int .i64 (j : Nat) ∧ j ≤ i ∧ Hid (twN ((L.drivers.take j).map DriverL.name) b.name = false) ∧ Below w1.heap.size w1 wr) (fun jv _ => i - (intOf jv).toNat)
    case atStart => exact ⟨0, rfl, Nat.zero_le _, Lib.hid rfl, brefl w1⟩
    case round =>
     obtain ⟨j, rfl, hj, HT, hb2⟩ := hrel
     rename World => w2
     have x2 := x1.below hb2 x1.lt
     have xL2 := xL1.below hb2 xL1.lt
     have bw2 := bw1.trans (hb2.mono bw1.size)
     have cB0 := x2.cell 0
     have hlw : wa.heap.size < w2.heap.size := x2.lt
     have hlL2 : w.heap.size < w2.heap.size := xL2.lt
     rcases Nat.lt_or_ge j i with hjl | hjg
     ·have hj1 : ((j : Int) < (i : Int)) = True := by simp; omega
      have hjn : j < q := by omega
      obtain ⟨a, ha, hA⟩ := ((HL.out.drivers.dr q1).dr hb2).rowAt hjn
      obtain ⟨d0, d1, hn2⟩ := hA
      have hgw : g < w2.heap.size := by have := hb2.size; have := q1.size; omega
      clear hn2
      have hne1 : ¬ wa.heap.size = w2.heap.size := by omega
      have hne2 : ¬ g = w2.heap.size := by omega
      have htl := toList_v b.name
      by_cases heq : a.name = b.name
      ·have h6 : x = 6 := HXZ.out 6 (by decide) (by
        show driverErr n (L.drivers.take i) b = 6
        unfold driverErr
        rw [HV.out, if_neg (by decide), if_pos (twM_hit ha hjl heq)])
       rw [heq] at d0
       have hee : (b.name == b.name) = true := by simp
       clear heq ha
       go_wp2_with fail
       go_ret
       exact ⟨by rw [h6]; rfl, bw2.alloc bw2.size _⟩
      ·have hta := toList_v a.name
       have HT2 := Lib.hid (twM_step ha HT.out heq)
       have hee : (a.name == b.name) = false := beq_eq_false_iff_ne.2 heq
       clear heq ha HT
       go_wp2_with fail
       go_roundw
       case rel => exact ⟨j + 1, by go_num, by omega, HT2, hb2.alloc hb2.size _⟩
       case measure => simp [intOf]; omega
     ·have hj1 : ((j : Int) < (i : Int)) = False := by simp; omega
      obtain rfl : j = i := by omega
      clear cB0
      have cL1 := xL2.cell 1
      have z1 := x2.cell 1
      obtain ⟨v1, hv1⟩ : ∃ v, inI b.body n = v := ⟨_, rfl⟩
      have HV1 := Lib.hid hv1
      have HT9 := HT
      clear hv1
      go_wp2_with fail
      (with_reducible refine (m_in _ b.body n v1 HV1.out).mono ?_); rintro e' w3 ⟨rfl, hb3⟩
      have bw3 := bw2.trans (hb3.mono bw2.size)
      have xL3 := xL2.below hb3 xL2.lt
      have x3 := x2.below hb3 x2.lt
      clear cL1 z1
      cases v1
      ·have h9 : x = 9 := HXZ.out 9 (by decide) (by
        show driverErr n (L.drivers.take j) b = 9
        unfold driverErr
        rw [HV.out, if_neg (by decide), HT9.out, if_neg (by decide), if_pos HV1.out])
       go_wp2_with fail
       go_ret
       exact ⟨by rw [h9]; rfl, bw3⟩
      have z1 := x3.cell 1
      have cL3 := xL3.cell 3
      have hl3 : wa.heap.size < w3.heap.size := x3.lt
      by_cases hb0 : b.body = 0
      ·have e0 : (b.body == 0) = true := beq_iff_eq.2 hb0
       have h7 : x = 7 := HXZ.out 7 (by decide) (by
        show driverErr n (L.drivers.take j) b = 7
        unfold driverErr
        rw [HV.out, if_neg (by decide), HT9.out, if_neg (by decide), HV1.out, if_neg (by decide), if_pos hb0])
       clear hb0
       go_wp2_with fail
       go_ret
       exact ⟨by rw [h7]; rfl, bw3⟩
      have e0 : (b.body == 0) = false := beq_eq_false_iff_ne.2 hb0
      have HB0 := Lib.hid hb0
      clear hb0
      go_wp2_with fail
      clear z1 cL3
      go_loopw [60] (fun jv wr => ∃ r : Nat, jv = .int .i64 (r : Nat) ∧ r ≤ j ∧ Hid (((L.drivers.take r).any fun p => p.body == b.body) = false) ∧ Below w3.heap.size w3 wr) (fun jv _ => j - (intOf jv).toNat)
      case atStart => exact ⟨0, rfl, Nat.zero_le _, Lib.hid rfl, brefl w3⟩
      case round =>
       obtain ⟨r, rfl, hr, HR, hb4⟩ := hrel
       rename World => w4
       have x4 := x3.below hb4 x3.lt
       have xL4 := xL3.below hb4 xL3.lt
       have bw4 := bw3.trans (hb4.mono bw3.size)
       have z1 := x4.cell 1
       have hl4 : wa.heap.size < w4.heap.size := x4.lt
       rcases Nat.lt_or_ge r j with hrl | hrg
       ·have hr1 : ((r : Int) < (j : Int)) = True := by simp; omega
        have hrn : r < q := by omega
        obtain ⟨a, ha, hA⟩ := ((((HL.out.drivers.dr q1).dr hb2).dr hb3).dr hb4).rowAt hrn
        obtain ⟨d0, d1, hn2⟩ := hA
        have hgw : g < w4.heap.size := by have := hb4.size; have := hb3.size; have := hb2.size; have := q1.size; omega
        clear hn2
        have hne1 : ¬ wa.heap.size = w4.heap.size := by omega
        have hne2 : ¬ g = w4.heap.size := by omega
        have ht4 : L.drivers.take (r + 1) = L.drivers.take r ++ [a] := by rw [List.take_add_one, ha]; rfl
        by_cases heq : a.body = b.body
        ·have h6 : x = 6 := HXZ.out 6 (by decide) (by
          show driverErr n (L.drivers.take j) b = 6
          unfold driverErr
          rw [HV.out, if_neg (by decide), HT9.out, if_neg (by decide), HV1.out, if_neg (by decide), if_neg HB0.out, if_pos]
          rw [List.any_eq_true]
          exact ⟨a, List.mem_of_getElem? (i := r) (by rw [List.getElem?_take, if_pos hrl]; exact ha), by simpa using heq⟩)
         have hee : (a.body == b.body) = true := beq_iff_eq.2 heq
         clear heq ha ht4
         go_wp2_with fail
         go_ret
         exact ⟨by rw [h6]; rfl, bw4.alloc bw4.size _⟩
        ·have HR2 : Hid (((L.drivers.take (r + 1)).any fun p => p.body == b.body) = false) := Lib.hid (by
          rw [ht4, List.any_append, HR.out]
          simpa using heq)
         have hee : (a.body == b.body) = false := beq_eq_false_iff_ne.2 heq
         clear heq ha ht4 HR
         go_wp2_with fail
         go_roundw
         case rel => exact ⟨r + 1, by go_num, by omega, HR2, hb4.alloc hb4.size _⟩
         case measure => simp [intOf]; omega
       ·have hr1 : ((r : Int) < (j : Int)) = False := by simp; omega
        obtain rfl : r = j := by omega
        have h0 : driverErr n (L.drivers.take r) b = 0 := by
         unfold driverErr
         rw [HV.out, if_neg (by decide), HT9.out, if_neg (by decide), HV1.out, if_neg (by decide), if_neg HB0.out, HR.out]
         rfl
        have HX2 : Hid (errs (driverErr n) (L.drivers.take (r + 1)) (L.drivers.drop (r + 1)) = x) := Lib.hid (by
         rcases HS.out with ⟨_, u⟩ | ⟨u, _⟩
         ·exact u
         ·exact absurd h0 u)
        clear h0 z1
        go_wp2_with fail
        go_roundw
        case rel => exact ⟨r + 1, by go_num, by omega, HX2, xL4, bw4⟩
        case measure => simp [intOf]; omega
  ·have hi1 : ((i : Int) < (q : Int)) = False := by simp; omega
   have hx0 : x = 0 := errs_end HX.out (by rw [HLN.out]; exact hge)
   go_wp2_with fail
   go_ret
   exact ⟨by rw [hx0]; rfl, hb⟩
end Go.Proofs.YtoiijifnfdgfpaaGreatDoor

/- Walks: linkages: what is wrong with one (program). -/
namespace Go.Proofs.YtoiijifnfdgfpaaGreatDoor
open Go Go.RowKit Bn
attribute [local go_sem ↓] Go.wp_at_zero Go.wp_at_succ
theorem eVp {x : Int} (h : x ≠ 0) : errV x = .iface 63 (.int .i64 x) := if_neg h
theorem eV0 : errV 0 = .nilIface := if_pos rfl
theorem m_check (w : World) (A : Option Addr) (n c : Nat) (B : Option Addr) (p d : Nat) (C : Option Addr) (q e : Nat) (L : LinkL) (k : Nat) (h : LkS k w A n c B p d C q e L) (hk : k ≤ 10000000) (hk1 : 0 < k) (x : Int) (hx : lkErr L = x) :
  Calls Tryz.prog 21 #[.agg #[strV L.name, .slice A n c, .slice B p d, .slice C q e]] w (RetV w (errV x)) := by
 have hln := h.bodies.1
 obtain ⟨v, hv⟩ : ∃ v, nameOk L.name = v := ⟨_, rfl⟩
 have HV := Lib.hid hv
 have HX := Lib.hid hx
 have HL := Lib.hid hln
 have H := Lib.hid h
 clear hv hx hln h
 go_enter Tryz.func21, Tryz.ntmps21
 go_wp2_with fail
 (with_reducible refine (t_name _ L.name H.out.name v HV.out).mono ?_); rintro e' w1 ⟨rfl, hb1⟩
 have q1 := ((Below.refl _ _).alloc (Nat.le_refl _) _).trans (hb1.mono (by simp))
 have x1 : Blk w1 w.heap.size 36 #[strV L.name, .slice A n c, .slice B p d, .slice C q e] := (blkAt _ _ _ (by simp)).below hb1 (by simp)
 clear hb1
 cases v
 ·have h5 : x = 5 := by rw [← HX.out]; unfold lkErr; rw [if_pos HV.out]
  go_wp2_with fail
  go_ret
  exact ⟨by rw [h5]; rfl, q1⟩
 have hX1 : x = if n = 0 then 10 else if 8 < n then 4 else if errs bodyErr [] L.bodies ≠ 0 then errs bodyErr [] L.bodies
   else if 16 < L.joints.length then 4 else if errs (jointErr L) [] L.joints ≠ 0 then errs (jointErr L) [] L.joints
   else if 2 < L.drivers.length then 4 else errs (driverErr n) [] L.drivers := by
  rw [← HX.out]; unfold lkErr; rw [if_neg (by rw [HV.out]; decide), HL.out]
 obtain ⟨y1, hy1⟩ : ∃ y, errs bodyErr [] L.bodies = y := ⟨_, rfl⟩
 obtain ⟨y2, hy2⟩ : ∃ y, (if 16 < L.joints.length then (4 : Int) else errs (jointErr L) [] L.joints) = y := ⟨_, rfl⟩
 obtain ⟨y3, hy3⟩ : ∃ y, (if 2 < L.drivers.length then (4 : Int) else errs (driverErr n) [] L.drivers) = y := ⟨_, rfl⟩
 have hX2 : x = if n = 0 then 10 else if 8 < n then 4 else if y1 ≠ 0 then y1 else if y2 ≠ 0 then y2 else y3 := by
  rw [hX1, hy1, ← hy2, ← hy3]
  by_cases a : 16 < L.joints.length
  ·simp [a]
  ·simp [a]
 have HX2 := Lib.hid hX2
 have HY1 := Lib.hid hy1
 have HY2 := Lib.hid hy2
 have HY3 := Lib.hid hy3
 clear hX1 hX2 hy1 hy2 hy3
 have cx1 := x1.cell 1
 by_cases h0 : n = 0
 ·have e0 : ((n : Int) == 0) = true := beq_iff_eq.2 (by omega)
  have e00 : ((n : Int) = 0) = True := eq_true (by omega)
  have h10 : x = 10 := by rw [HX2.out, if_pos h0]
  clear h0
  go_wp2_with fail
  go_ret
  exact ⟨by rw [h10]; rfl, q1⟩
 have e0 : ((n : Int) == 0) = false := beq_eq_false_iff_ne.2 (by omega)
 have e00 : ((n : Int) = 0) = False := eq_false (by omega)
 by_cases h8 : 8 < n
 ·have e8 : ((8 : Int) < (n : Int)) = True := eq_true (by omega)
  have h4 : x = 4 := by rw [HX2.out, if_neg h0, if_pos h8]
  go_wp2_with fail
  go_ret
  exact ⟨by rw [h4]; rfl, q1⟩
 have e8 : ((8 : Int) < (n : Int)) = False := eq_false (by omega)
 have hX3 : x = if y1 ≠ 0 then y1 else if y2 ≠ 0 then y2 else y3 := by rw [HX2.out, if_neg h0, if_neg h8]
 have HX3 := Lib.hid hX3
 clear hX3 h0
 go_wp2_with fail
 (with_reducible refine (m_bodies _ A n c L.bodies k (H.out.bodies.bd q1) (by omega) (by omega) y1 HY1.out).mono ?_); rintro e' w2 ⟨rfl, hb2⟩
 have q2 := q1.trans (hb2.mono q1.size)
 have x2 := x1.below hb2 x1.lt
 clear cx1
 by_cases h1 : y1 = 0
 case neg =>
  have hxy : x = y1 := by rw [HX3.out, if_pos h1]
  rw [eVp h1]
  go_wp2_with fail
  go_ret
  exact ⟨by rw [hxy, eVp h1]; rfl, q2⟩
 have hX4 : x = if y2 ≠ 0 then y2 else y3 := by rw [HX3.out, if_neg (by simp [h1])]
 have HX4 := Lib.hid hX4
 clear hX4
 subst h1
 rw [eV0]
 have cx0 := x2.cell 0
 have cx1 := x2.cell 1
 have cx2 := x2.cell 2
 have cx3 := x2.cell 3
 go_wp2_with fail
 (with_reducible refine (m_joints _ A n c B p d C q e L k (H.out.belw q2) hk hk1 (by omega) y2 HY2.out).mono ?_); rintro e' w3 ⟨rfl, hb3⟩
 have q3 := q2.trans (hb3.mono q2.size)
 have x3 := x2.below hb3 x2.lt
 clear cx0 cx1 cx2 cx3
 by_cases h2 : y2 = 0
 case neg =>
  have hxy : x = y2 := by rw [HX4.out, if_pos h2]
  rw [eVp h2]
  go_wp2_with fail
  go_ret
  exact ⟨by rw [hxy, eVp h2]; rfl, q3⟩
 have hX5 : x = y3 := by rw [HX4.out, if_neg (by simp [h2])]
 subst hX5
 subst h2
 rw [eV0]
 have cx0 := x3.cell 0
 have cx1 := x3.cell 1
 have cx2 := x3.cell 2
 have cx3 := x3.cell 3
 go_wp2_with fail
 (with_reducible refine (m_drivers _ A n c B p d C q e L k (H.out.belw q3) hk hk1 (by omega) x HY3.out).mono ?_); rintro e' w4 ⟨rfl, hb4⟩
 have q4 := q3.trans (hb4.mono q3.size)
 clear cx0 cx1 cx2 cx3
 go_wp2_with fail
 go_ret
 exact ⟨rfl, q4⟩
end Go.Proofs.YtoiijifnfdgfpaaGreatDoor

/- The reader's block: the tokens that are left, and its other cells. -/
namespace Go.Proofs.YtoiijifnfdgfpaaGreatDoor
open Go Go.RowKit Bn
/-! Only the block gr has turned. -/
section
variable {w w' w2 : World} {gr : Nat}
theorem rg_refl (gr : Nat) (w : World) : w.grownBy w (some gr) := ⟨rfl, rfl, rfl, Nat.le_refl _, fun _ _ _ => rfl⟩
theorem rg_trans (h : w.grownBy w' (some gr)) (k : w'.grownBy w2 (some gr)) : w.grownBy w2 (some gr) :=
  ⟨k.os.trans h.os, k.tape.trans h.tape, k.output.trans h.output, Nat.le_trans h.size k.size, fun i hi hne => (k.block i (Nat.lt_of_lt_of_le hi h.size) hne).trans (h.block i hi hne)⟩
theorem rg_set (h : w.grownBy w' (some gr)) (i : Nat) (u : Value) : w.grownBy (w'.setCell ⟨gr, i, none⟩ u) (some gr) :=
  rg_trans h ⟨rfl, rfl, rfl, by simp [World.setCell], fun k _ hne => Below.heap_setCell w' ⟨gr, i, none⟩ u k (fun e => hne (by rw [e]))⟩
theorem rg_below (h : w.grownBy w' (some gr)) (k : Below w'.heap.size w' w2) : w.grownBy w2 (some gr) :=
  rg_trans h ⟨k.os, k.tape, k.output, k.size, fun i hi _ => k.block i hi⟩
theorem rg_alloc (h : w.grownBy w' (some gr)) (o : Obj) : w.grownBy (w'.alloc o) (some gr) := rg_below h ((Below.refl _ _).alloc (Nat.le_refl _) o)
theorem rg_drew (h : w.grownBy w' (some gr)) : w.grownBy w'.drew (some gr) := ⟨h.os, h.tape, h.output, h.size, h.block⟩
theorem rg_bel {B : Nat} (h : w.grownBy w' (some gr)) (hB : B ≤ w.heap.size) (hg : B ≤ gr) : Below B w w' := (Below.refl B w).grown h hB (fun k e => by injection e with e; omega)
theorem rg_blk {g t : Nat} {cs : Array Value} (h : w.grownBy w' (some gr)) (x : Blk w g t cs) (hne : g ≠ gr) : Blk w' g t cs := (h.block g x.lt (fun e => hne (by injection e))).trans x
theorem rg_blks {g t : Nat} {cs : Array Value} (h : w.grownBy w' (some gr)) (x : w.heap[g]? = some (.cells cs t (0, 0))) (hne : g ≠ gr) : w'.heap[g]? = some (.cells cs t (0, 0)) := (h.block g (lt_of_block x) (fun e => hne (by injection e))).trans x
end
def TkA (B : Nat) (w : World) (A : Option Addr) (n c : Nat) (l : List Tkn) : Prop := l.length = n ∧ n ≤ c ∧ (0 < n → ∃ g o, A = some ⟨g, o, none⟩ ∧ g < B ∧ ∀ i v, (tokCs l)[i]? = some v → w.cell? ⟨g, o + i, none⟩ = some v)
def MxA (B : Nat) (w : World) : Prop := 0 < B ∧ Mx w
section
variable {B : Nat} {w w' : World} {A : Option Addr} {n c gr : Nat} {l : List Tkn}
theorem TkA.rg (h : TkA B w A n c l) (hB : B ≤ gr) (k : w.grownBy w' (some gr)) : TkA B w' A n c l := by
  refine ⟨h.1, h.2.1, fun hn => ?_⟩
  obtain ⟨g, o, e, hg, hc⟩ := h.2.2 hn
  exact ⟨g, o, e, hg, fun i v hv => k.cell (hc i v hv) (fun e => by injection e with e; simp only at e; omega)⟩
theorem TkA.belB (h : TkA B w A n c l) (k : Below B w w') : TkA B w' A n c l := by
  refine ⟨h.1, h.2.1, fun hn => ?_⟩
  obtain ⟨g, o, e, hg, hc⟩ := h.2.2 hn
  exact ⟨g, o, e, hg, fun i v hv => (k.cell (p := ⟨g, o + i, none⟩) hg).trans (hc i v hv)⟩
theorem TkA.of_tks (h : TkS w A n c l) : TkA w.heap.size w A n c l := by
  refine ⟨h.1, ?_, fun hn => ?_⟩
  · rcases h.2 with ⟨h1, _, h3⟩ | ⟨g, _, h1, _⟩
    · omega
    · exact h1
  · rcases h.2 with ⟨h1, _, h3⟩ | ⟨g, e, h1, hc⟩
    · omega
    · have hl : 0 < (tokCs l).length := by rw [tokCs_len, h.1]; omega
      have h0 : (tokCs l)[0]? = some ((tokCs l)[0]'hl) := List.getElem?_eq_getElem hl
      exact ⟨g, 0, e, World.block_lt_of_cell? w ⟨g, 0, none⟩ (hc 0 _ h0), fun i v hv => by rw [Nat.zero_add]; exact hc i v hv⟩
theorem TkA.head {t : Tkn} (h : TkA B w A n c (t :: l)) : ∃ g o, A = some ⟨g, o, none⟩ ∧ g < B ∧ w.cell? ⟨g, o, none⟩ = some (.int .i64 (t.kind : Nat)) ∧ w.cell? ⟨g, o + 1, none⟩ = some (strV t.text) ∧ w.cell? ⟨g, o + 2, none⟩ = some (.int .i64 (t.line : Nat)) ∧ w.cell? ⟨g, o + 3, none⟩ = some (.int .i64 (t.col : Nat)) := by
  obtain ⟨g, o, e, hg, hc⟩ := h.2.2 (by rw [← h.1]; simp)
  exact ⟨g, o, e, hg, hc 0 _ rfl, hc 1 _ rfl, hc 2 _ rfl, hc 3 _ rfl⟩
theorem TkA.tail {t : Tkn} {A' : Option Addr} {n' c' : Nat} (h : TkA B w A n c (t :: l)) (hA : A' = if c = 1 then A else A.map (·.add 4)) (hn : n' = n - 1) (hc : c' = c - 1) : TkA B w A' n' c' l := by
  subst hn hc
  have hl : l.length + 1 = n := by rw [← h.1]; simp
  refine ⟨by omega, by have := h.2.1; omega, fun hn => ?_⟩
  obtain ⟨g, o, e, hg, hc⟩ := h.2.2 (by omega)
  have hc1 : ¬ c = 1 := by have := h.2.1; omega
  rw [if_neg hc1, e] at hA
  refine ⟨g, o + 4, hA, hg, fun i v hv => ?_⟩
  have h1 : (tokCs (t :: l))[i + 4]? = some v := by
    have : tokCs (t :: l) = tokC t ++ tokCs l := rfl
    rw [this, List.getElem?_append_right (by simp [tokC])]
    simpa [tokC] using hv
  have := hc _ _ h1
  rwa [show o + (i + 4) = o + 4 + i by omega] at this
theorem MxA.rg (h : MxA B w) (hB : B ≤ gr) (k : w.grownBy w' (some gr)) : MxA B w' := by
  obtain ⟨h1, m, hm⟩ := h
  exact ⟨h1, m, k.cell hm (fun e => by injection e with e; simp only at e; omega)⟩
theorem MxA.belB (h : MxA B w) (k : Below B w w') : MxA B w' := by
  obtain ⟨h1, m, hm⟩ := h
  exact ⟨h1, m, (k.cell (p := ⟨_, 0, none⟩) h1).trans hm⟩
theorem MxA.out (h : MxA B w) : Mx w := h.2
theorem MxA.of_mx (h : Mx w) : MxA w.heap.size w := by
  obtain ⟨m, hm⟩ := h
  exact ⟨World.block_lt_of_cell? w ⟨_, 0, none⟩ hm, m, hm⟩
end
structure RdP (B : Nat) (w : World) (gr : Nat) (c1 c2 c3 c4 : Value) (s : PS) : Prop where
  blk : ∃ A n c, Blk w gr 100 #[.slice A n c, c1, c2, c3, c4, errV s.x] ∧ TkA B w A n c s.toks
  mx : MxA B w
  hB : B ≤ gr
  len : s.toks.length ≤ 65536
  txt : ∀ t ∈ s.toks, NmL t.text
  hw : noW c1 = true ∧ noW c2 = true ∧ noW c3 = true ∧ noW c4 = true
def RetR (B : Nat) (w : World) (gr : Nat) (c1 c2 c3 c4 : Value) (v : Value) (s : PS) (e : Ending) (w' : World) : Prop := e = .returned v ∧ RdP B w' gr c1 c2 c3 c4 s ∧ w.grownBy w' (some gr)
section
variable {B : Nat} {w w' : World} {gr : Nat} {c1 c2 c3 c4 : Value} {s : PS}
theorem RdP.lt (h : RdP B w gr c1 c2 c3 c4 s) : gr < w.heap.size := by obtain ⟨A, n, c, hb, _⟩ := h.blk; exact hb.lt
theorem RdP.bel1 (h : RdP B w gr c1 c2 c3 c4 s) (k : Below (gr + 1) w w') : RdP B w' gr c1 c2 c3 c4 s := by
  obtain ⟨A, n, c, hb, ht⟩ := h.blk
  have hB := h.hB
  have k' : Below B w w' := k.mono (by omega)
  exact ⟨⟨A, n, c, hb.below k (by omega), ht.belB k'⟩, h.mx.belB k', h.hB, h.len, h.txt, h.hw⟩
theorem RdP.belw (h : RdP B w gr c1 c2 c3 c4 s) (k : Below w.heap.size w w') : RdP B w' gr c1 c2 c3 c4 s := by
  obtain ⟨A, n, c, hb, ht⟩ := h.blk
  have hlt := hb.lt
  have hB := h.hB
  have k' : Below B w w' := k.mono (by omega)
  exact ⟨⟨A, n, c, hb.below k hlt, ht.belB k'⟩, h.mx.belB k', h.hB, h.len, h.txt, h.hw⟩
theorem RdP.alloc (h : RdP B w gr c1 c2 c3 c4 s) (o : Obj) : RdP B (w.alloc o) gr c1 c2 c3 c4 s := h.belw ((Below.refl _ _).alloc (Nat.le_refl _) o)
theorem RdP.far (h : RdP B w gr c1 c2 c3 c4 s) {p : Addr} (hp : gr < p.block) (u : Value) : RdP B (w.setCell p u) gr c1 c2 c3 c4 s := by
  obtain ⟨A, n, c, hb, ht⟩ := h.blk
  have hB := h.hB
  have k' : Below B w (w.setCell p u) := (Below.refl B w).setCell (by omega) u
  exact ⟨⟨A, n, c, hb.far (by omega) u, ht.belB k'⟩, h.mx.belB k', h.hB, h.len, h.txt, h.hw⟩
theorem rg_bel1 {w2 : World} (h : w.grownBy w' (some gr)) (k : Below w.heap.size w' w2) : w.grownBy w2 (some gr) :=
  ⟨k.os.trans h.os, k.tape.trans h.tape, k.output.trans h.output, Nat.le_trans h.size k.size, fun i hi hne => (k.block i hi).trans (h.block i hi hne)⟩
theorem RowT.rg {α : Type} {T0 : TypeId} {Pc : World → List Value → α → Prop} {sz base n : Nat} {v : Value} {l : List α} (h : RowT T0 Pc sz w base v n l) (hgr : gr < base) (k : w.grownBy w' (some gr)) (hP : ∀ cs a, Pc w cs a → Pc w' cs a) : RowT T0 Pc sz w' base v n l :=
  h.same (fun g _ hg hc => rg_blks k hc (by omega)) hP
theorem noW_err (x : Int) : noW (errV x) = true := by unfold errV; split <;> rfl
theorem RdP.tch {T : TypeId → Bool} (h : RdP B w gr c1 c2 c3 c4 s) (k : w.grownBy w' (some gr)) (hT : T 100 = true) : Tch T w w' := by
  obtain ⟨A, n, c, hb, _⟩ := h.blk
  obtain ⟨h1, h2, h3, h4⟩ := h.hw
  refine Tch.of_ne k.size hb hT ?_ fun g hlt hne => k.block g hlt (fun e => hne (by injection e))
  simp only [List.all_cons, List.all_nil, h1, h2, h3, h4, noW_err, Bool.and_true]
  rfl
end
def TA : TypeId → Bool := fun _ => true
theorem tch_sets {w : World} {g t : Nat} {cs : Array Value} (z : Blk w g t cs) (hz : cs.toList.all noW = true) (i j k : Nat) (u0 u1 u2 : Value) : Tch TA w (((w.setCell ⟨g, i, none⟩ u0).setCell ⟨g, j, none⟩ u1).setCell ⟨g, k, none⟩ u2) :=
  Tch.of_ne (by simp [World.setCell]) z rfl hz fun g' _ hne => by
    rw [Below.heap_setCell _ _ _ _ hne, Below.heap_setCell _ _ _ _ hne, Below.heap_setCell _ _ _ _ hne]
theorem bel_sets {B g : Nat} (w : World) (hB : B ≤ g) (i j k : Nat) (u0 u1 u2 : Value) : Below B w (((w.setCell ⟨g, i, none⟩ u0).setCell ⟨g, j, none⟩ u1).setCell ⟨g, k, none⟩ u2) :=
  (((Below.refl B w).setCell (p := ⟨g, i, none⟩) hB u0).setCell (p := ⟨g, j, none⟩) hB u1).setCell (p := ⟨g, k, none⟩) hB u2
theorem rg_far {w w' : World} {gr : Nat} (h : w.grownBy w' (some gr)) {p : Addr} (hp : w.heap.size ≤ p.block) (u : Value) : w.grownBy (w'.setCell p u) (some gr) :=
  ⟨h.os, h.tape, h.output, by simp [World.setCell, h.size], fun k hk hne => (Below.heap_setCell w' p u k (by omega)).trans (h.block k hk hne)⟩
def mOf (gr : Nat) (w : World) : Nat := (match w.cell? ⟨gr, 0, none⟩ with | some (.slice _ n _) => 2 * n | _ => 0) + (match w.cell? ⟨gr, 5, none⟩ with | some .nilIface => 1 | _ => 0)
theorem RdP.meas {B : Nat} {w : World} {gr : Nat} {c1 c2 c3 c4 : Value} {s : PS} (h : RdP B w gr c1 c2 c3 c4 s) : mOf gr w = 2 * s.toks.length + if s.x = 0 then 1 else 0 := by
  obtain ⟨A, n, c, hb, ht⟩ := h.blk
  unfold mOf
  rw [hb.cell 0, hb.cell 5]
  show 2 * n + (match some (errV s.x) with | some .nilIface => 1 | _ => 0) = _
  rw [ht.1]
  by_cases hx : s.x = 0
  · rw [if_pos hx, hx, errV_0]
  · rw [if_neg hx, eVp hx]
theorem info_mk : (Tryz.prog.info? 85).map (fun i => (i.zero, i.size, i.bytes)) = some (some (.agg #[.string ⟨#[]⟩, .bool false, .slice none 0 0, .slice none 0 0, .bool false, .slice none 0 0, .slice none 0 0]), 7, 128) := by kernel_rfl
theorem info_bd : (Tryz.prog.info? 56).map (fun i => (i.zero, i.size, i.bytes)) = some (some (.agg #[.string ⟨#[]⟩, .slice none 0 0]), 2, 40) := by kernel_rfl
theorem info_jt : (Tryz.prog.info? 60).map (fun i => (i.zero, i.size, i.bytes)) = some (some (.agg #[.string ⟨#[]⟩, .int .i64 0, .int .i64 0, .int .i64 0, .int .i64 0, .int .i64 0, .int .i64 0]), 7, 64) := by kernel_rfl
theorem info_dr : (Tryz.prog.info? 58).map (fun i => (i.zero, i.size, i.bytes)) = some (some (.agg #[.string ⟨#[]⟩, .int .i64 0]), 2, 24) := by kernel_rfl
end Go.Proofs.YtoiijifnfdgfpaaGreatDoor

/- Walks: the reader's small methods: fail, next, word, expect, sign, more, number. -/
namespace Go.Proofs.YtoiijifnfdgfpaaGreatDoor
open Go Go.RowKit Bn
attribute [local go_sem ↓] Go.wp_at_zero Go.wp_at_succ
section
variable {w : World} {g t : Nat} {a0 a1 a2 a3 a4 a5 : Value}
theorem Blk.s60 (h : Blk w g t #[a0, a1, a2, a3, a4, a5]) (u : Value) : Blk (w.setCell ⟨g, 0, none⟩ u) g t #[u, a1, a2, a3, a4, a5] := h.set_ 0 u
theorem Blk.s61 (h : Blk w g t #[a0, a1, a2, a3, a4, a5]) (u : Value) : Blk (w.setCell ⟨g, 1, none⟩ u) g t #[a0, u, a2, a3, a4, a5] := h.set_ 1 u
theorem Blk.s62 (h : Blk w g t #[a0, a1, a2, a3, a4, a5]) (u : Value) : Blk (w.setCell ⟨g, 2, none⟩ u) g t #[a0, a1, u, a3, a4, a5] := h.set_ 2 u
theorem Blk.s63 (h : Blk w g t #[a0, a1, a2, a3, a4, a5]) (u : Value) : Blk (w.setCell ⟨g, 3, none⟩ u) g t #[a0, a1, a2, u, a4, a5] := h.set_ 3 u
theorem Blk.s64 (h : Blk w g t #[a0, a1, a2, a3, a4, a5]) (u : Value) : Blk (w.setCell ⟨g, 4, none⟩ u) g t #[a0, a1, a2, a3, u, a5] := h.set_ 4 u
theorem Blk.s65 (h : Blk w g t #[a0, a1, a2, a3, a4, a5]) (u : Value) : Blk (w.setCell ⟨g, 5, none⟩ u) g t #[a0, a1, a2, a3, a4, u] := h.set_ 5 u
end
theorem next_some {s s' : PS} {k : Nat} {t : List UInt8} (h : s.next k = (some t, s')) : s' = s ∧ s.x = 0 ∧ ∃ t0 r, s.toks = t0 :: r ∧ t0.kind = k ∧ t0.text = t := by
  unfold PS.next at h
  split at h
  · cases h
  · rename_i hx
    split at h
    · cases h
    · rename_i t0 r e
      split at h
      · rename_i hk
        injection h with h1 h2
        injection h1 with h1
        exact ⟨h2.symm, by simpa using hx, t0, r, e, hk, h1⟩
      · cases h
theorem rd_fail (w : World) (gr : Nat) (c0 c1 c2 c3 c4 : Value) (x e : Int) (hb : Blk w gr 100 #[c0, c1, c2, c3, c4, errV x]) (he : e ≠ 0) : Calls Tryz.prog 66 #[.pointer (some ⟨gr, 0, none⟩), .iface 63 (.int .i64 e)] w (fun en w' => en = .returned (.tuple #[]) ∧ Blk w' gr 100 #[c0, c1, c2, c3, c4, errV (if x = 0 then e else x)] ∧ w.grownBy w' (some gr)) := by
 have hlt := hb.lt
 have f5 := hb.frozen 5
 have ee := eVp he
 by_cases hx : x = 0
 ·subst hx
  have HB := Lib.hid hb
  obtain ⟨_, _, _, _, _, a5⟩ := hb.c6
  rw [errV_0] at a5
  rw [if_pos rfl, ee]
  clear hb ee
  go_enter Tryz.func66, Tryz.ntmps66
  go_wp2_with fail
  go_end0
  exact ⟨rfl, HB.out.s65 _, rg_set (rg_refl _ _) _ _⟩
 ·rw [if_neg hx]
  have HB := Lib.hid hb
  obtain ⟨_, _, _, _, _, a5⟩ := hb.c6
  rw [eVp hx] at a5
  clear hb ee
  go_enter Tryz.func66, Tryz.ntmps66
  go_wp2_with fail
  go_end0
  exact ⟨rfl, HB.out, rg_refl _ _⟩
theorem rd_next (B : Nat) (w : World) (gr : Nat) (c1 c2 c3 c4 : Value) (s : PS) (h : RdP B w gr c1 c2 c3 c4 s) (k : Nat) (z : Int) (hz : z = (k : Int)) : Calls Tryz.prog 90 #[.pointer (some ⟨gr, 0, none⟩), .int .i64 z] w (RetR B w gr c1 c2 c3 c4 (.tuple #[strV ((s.next k).1.getD []), .bool (s.next k).1.isSome]) (s.next k).2) := by
 subst hz
 have HP := Lib.hid h
 obtain ⟨toks, L, x⟩ := s
 obtain ⟨A, n, c, hb, ht⟩ := h.blk
 have hmx := h.mx
 have hB := h.hB
 have hlen := h.len
 have hw := h.hw
 have htx := h.txt
 simp only at hb ht hlen htx
 have HB := Lib.hid hb
 have HT := Lib.hid ht
 have HM := Lib.hid hmx
 have hn := ht.1
 obtain ⟨a0, _, _, _, _, a5⟩ := hb.c6
 clear hb ht hmx h
 by_cases hx : x = 0
 ·subst hx
  rw [errV_0] at a5
  cases toks with
  | nil =>
   have e : PS.next ⟨[], L, 0⟩ k = (none, ⟨[], L, 18⟩) := rfl
   rw [e]
   subst hn
   go_enter Tryz.func90, Tryz.ntmps90
   go_wp2_with fail
   (with_reducible refine (rd_fail _ gr (.slice A 0 c) c1 c2 c3 c4 0 18 HB.out (by decide)).mono ?_); rintro e w1 ⟨rfl, hb1, hg1⟩
   rw [if_pos rfl] at hb1
   have HB1 := Lib.hid hb1
   clear hb1
   go_wp2_with fail
   refine bodyPost_ret (v := .tuple #[strV [], .bool false]) (by simp [results, Tryz.results90, go_sem, *] <;> first | rfl | exact ⟨rfl, rfl⟩) rfl ?_
   exact ⟨rfl, ⟨⟨A, 0, c, HB1.out, HT.out.rg hB hg1⟩, HM.out.rg hB hg1, hB, hlen, htx, hw⟩, hg1⟩
  | cons t r =>
   have hn1 : 0 < n := by rw [← hn]; simp
   obtain ⟨g, o, e, hg, d0, d1, d2, d3⟩ := HT.out.head
   subst e
   have hi0 : (0 : Int) < (n : Int) := by omega
   by_cases hk : t.kind = k
   ·have e : PS.next ⟨t :: r, L, 0⟩ k = (some t.text, ⟨t :: r, L, 0⟩) := by unfold PS.next; rw [if_neg (by simp)]; simp [hk]
    rw [e]
    have hk1 : ((t.kind : Int) == (k : Int)) = true := by simp [hk]
    have hk2 : ((n : Int) == 0) = false := beq_eq_false_iff_ne.2 (by omega)
    clear hn hk
    go_enter Tryz.func90, Tryz.ntmps90
    go_wp2_with fail
    refine bodyPost_ret (v := .tuple #[strV t.text, .bool true]) (by simp [results, Tryz.results90, go_sem, *] <;> first | rfl | exact ⟨rfl, rfl⟩) rfl ?_
    exact ⟨rfl, HP.out.alloc _, rg_alloc (rg_refl _ _) _⟩
   ·have e : PS.next ⟨t :: r, L, 0⟩ k = (none, ⟨t :: r, L, 2⟩) := by unfold PS.next; rw [if_neg (by simp)]; simp [hk]
    rw [e]
    have hk1 : ((t.kind : Int) == (k : Int)) = false := beq_eq_false_iff_ne.2 (by omega)
    have hk2 : ((n : Int) == 0) = false := beq_eq_false_iff_ne.2 (by omega)
    clear hn hk
    go_enter Tryz.func90, Tryz.ntmps90
    go_wp2_with fail
    (with_reducible refine (rd_fail _ gr (.slice (some ⟨g, o, none⟩) n c) c1 c2 c3 c4 0 2 (HB.out.alloc _) (by decide)).mono ?_); rintro e w1 ⟨rfl, hb1, hg1⟩
    rw [if_pos rfl] at hb1
    have HB1 := Lib.hid hb1
    have hg2 := rg_trans (rg_alloc (rg_refl gr w) _) hg1
    clear hb1 hg1
    go_wp2_with fail
    refine bodyPost_ret (v := .tuple #[strV [], .bool false]) (by simp [results, Tryz.results90, go_sem, *] <;> first | rfl | exact ⟨rfl, rfl⟩) rfl ?_
    exact ⟨rfl, ⟨⟨_, n, c, HB1.out, HT.out.rg hB hg2⟩, HM.out.rg hB hg2, hB, hlen, htx, hw⟩, hg2⟩
 ·have e : PS.next ⟨toks, L, x⟩ k = (none, ⟨toks, L, x⟩) := if_pos hx
  rw [e]
  rw [eVp hx] at a5
  go_enter Tryz.func90, Tryz.ntmps90
  go_wp2_with fail
  refine bodyPost_ret (v := .tuple #[strV [], .bool false]) (by simp [results, Tryz.results90, go_sem, *] <;> first | rfl | exact ⟨rfl, rfl⟩) rfl ?_
  exact ⟨rfl, HP.out, rg_refl _ _⟩
theorem RdP.drop {B : Nat} {w : World} {gr n c n' c' : Nat} {A A' : Option Addr} {c1 c2 c3 c4 : Value} {s : PS} {t0 : Tkn} {r : List Tkn} (h : RdP B w gr c1 c2 c3 c4 s) (e : s.toks = t0 :: r)
    (hb : Blk w gr 100 #[.slice A n c, c1, c2, c3, c4, errV s.x]) (ht : TkA B w A n c s.toks) (hA : A' = if c = 1 then A else A.map (·.add 4)) (hn : n' = n - 1) (hc : c' = c - 1) : RdP B (w.setCell ⟨gr, 0, none⟩ (.slice A' n' c')) gr c1 c2 c3 c4 s.drop1 := by
  have hr := rg_set (rg_refl gr w) 0 (.slice A' n' c')
  have e1 : s.drop1.toks = r := by unfold PS.drop1; rw [e]; rfl
  rw [e] at ht
  exact ⟨⟨A', n', c', hb.s60 _, by rw [e1]; exact (ht.tail hA hn hc).rg h.hB hr⟩, h.mx.rg h.hB hr, h.hB, by rw [e1]; have := h.len; rw [e] at this; simp at this; omega, fun t ht => h.txt t (by rw [e]; rw [e1] at ht; exact List.mem_cons_of_mem _ ht), h.hw⟩
theorem rd_word (B : Nat) (w : World) (gr : Nat) (c1 c2 c3 c4 : Value) (s : PS) (h : RdP B w gr c1 c2 c3 c4 s) : Calls Tryz.prog 50 #[.pointer (some ⟨gr, 0, none⟩)] w (RetR B w gr c1 c2 c3 c4 (strV s.word.1) s.word.2) := by
 have HP := Lib.hid h
 obtain ⟨W, hW⟩ : ∃ W, s.word = W := ⟨_, rfl⟩
 rw [hW]
 have HW := Lib.hid hW
 clear h hW
 go_enter Tryz.func50, Tryz.ntmps50
 go_wp2_with fail
 (with_reducible refine (rd_next B _ gr c1 c2 c3 c4 s HP.out 0 0 rfl).mono ?_); rintro e w1 ⟨rfl, h1, hg1⟩
 have hW := HW.out
 unfold PS.word at hW
 generalize hq : s.next 0 = q at h1 hW
 obtain ⟨o, s'⟩ := q
 cases o with
 | none =>
  simp only [Option.getD_none, Option.isSome_none] at h1 hW ⊢
  subst hW
  have H1 := Lib.hid h1
  clear hq h1 HW
  go_wp2_with fail
  go_ret
  exact ⟨rfl, H1.out, hg1⟩
 | some t =>
  simp only [Option.getD_some, Option.isSome_some] at h1 hW ⊢
  subst hW
  obtain ⟨e, hx, t0, r, et, _, _⟩ := next_some hq
  obtain ⟨A, n, c, hb, ht⟩ := h1.blk
  have hn : (1 : Int) ≤ (n : Int) := by have := ht.1; rw [e, et] at this; simp at this; omega
  have f0 := hb.frozen 0
  obtain ⟨a0, _, _, _, _, _⟩ := hb.c6
  have H1 := Lib.hid h1
  have HB := Lib.hid hb
  have HT := Lib.hid ht
  have HE := Lib.hid (show s'.toks = t0 :: r by rw [e, et])
  clear h1 hb ht hq e et hx HW
  go_wp2_with fail
  all_goals
   go_ret
   exact ⟨rfl, H1.out.drop HE.out HB.out HT.out (by simp [Addr.add, *]) rfl (by omega), rg_set hg1 _ _⟩
theorem rd_expect (B : Nat) (w : World) (gr : Nat) (c1 c2 c3 c4 : Value) (s : PS) (h : RdP B w gr c1 c2 c3 c4 s) (k : Nat) (z : Int) (hz : z = (k : Int)) (text : List UInt8) : Calls Tryz.prog 49 #[.pointer (some ⟨gr, 0, none⟩), .int .i64 z, strV text] w (RetR B w gr c1 c2 c3 c4 (.tuple #[]) (s.expect k text)) := by
 have HP := Lib.hid h
 have HZ := Lib.hid hz
 obtain ⟨W, hW⟩ : ∃ W, s.expect k text = W := ⟨_, rfl⟩
 rw [hW]
 have HW := Lib.hid hW
 clear h hz hW
 go_enter Tryz.func49, Tryz.ntmps49
 go_wp2_with fail
 (with_reducible refine (rd_next B _ gr c1 c2 c3 c4 s HP.out k z HZ.out).mono ?_); rintro e w1 ⟨rfl, h1, hg1⟩
 have hW := HW.out
 unfold PS.expect at hW
 generalize hq : s.next k = q at h1 hW
 obtain ⟨o, s'⟩ := q
 cases o with
 | none =>
  simp only [Option.getD_none, Option.isSome_none] at h1 hW ⊢
  subst hW
  have H1 := Lib.hid h1
  clear hq h1 HW
  go_wp2_with fail
  go_end0
  exact ⟨rfl, H1.out, hg1⟩
 | some t =>
  simp only [Option.getD_some, Option.isSome_some] at h1 hW ⊢
  obtain ⟨e, hx, t0, r, et, _, _⟩ := next_some hq
  have ht1 := toList_v t
  have ht2 := toList_v text
  obtain ⟨A, n, c, hb, ht⟩ := h1.blk
  have hn : (1 : Int) ≤ (n : Int) := by have := ht.1; rw [e, et] at this; simp at this; omega
  have f0 := hb.frozen 0
  obtain ⟨a0, _, _, _, _, a5⟩ := hb.c6
  have H1 := Lib.hid h1
  have HB := Lib.hid hb
  have HT := Lib.hid ht
  have HE := Lib.hid (show s'.toks = t0 :: r by rw [e, et])
  have HX := Lib.hid (show s'.x = 0 by rw [e]; exact hx)
  clear h1 hb ht hq e et hx a5 HW
  by_cases heq : t = text
  ·rw [if_pos heq] at hW
   subst hW
   subst heq
   have hee : (t == t) = true := by simp
   go_wp2_with fail
   all_goals
    go_end0
    exact ⟨rfl, H1.out.drop HE.out HB.out HT.out (by simp [Addr.add, *]) rfl (by omega), rg_set hg1 _ _⟩
  ·rw [if_neg heq] at hW
   have e2 : s'.fail 2 = { s' with x := 2 } := if_pos HX.out
   rw [e2] at hW
   subst hW
   have hee : (t == text) = false := beq_eq_false_iff_ne.2 heq
   clear heq
   go_wp2_with fail
   (with_reducible refine (rd_fail _ gr (.slice A n c) c1 c2 c3 c4 s'.x 2 HB.out (by decide)).mono ?_); rintro e w2 ⟨rfl, hb2, hg2⟩
   rw [if_pos HX.out] at hb2
   have HB2 := Lib.hid hb2
   clear hb2
   go_wp2_with fail
   go_end0
   exact ⟨rfl, ⟨⟨A, n, c, HB2.out, HT.out.rg H1.out.hB hg2⟩, H1.out.mx.rg H1.out.hB hg2, H1.out.hB, H1.out.len, H1.out.txt, H1.out.hw⟩, rg_trans hg1 hg2⟩
theorem rd_sign (B : Nat) (w : World) (gr : Nat) (c1 c2 c3 c4 : Value) (s : PS) (h : RdP B w gr c1 c2 c3 c4 s) (text : List UInt8) : Calls Tryz.prog 51 #[.pointer (some ⟨gr, 0, none⟩), strV text] w (RetR B w gr c1 c2 c3 c4 (.tuple #[]) (s.expect 2 text)) := by
 have HP := Lib.hid h
 clear h
 go_enter Tryz.func51, Tryz.ntmps51
 go_wp2_with fail
 (with_reducible refine (rd_expect B _ gr c1 c2 c3 c4 s HP.out 2 2 rfl text).mono ?_); rintro e w1 ⟨rfl, h1, hg1⟩
 have H1 := Lib.hid h1
 clear h1
 go_wp2_with fail
 go_end0
 exact ⟨rfl, H1.out, hg1⟩
theorem rd_more (B : Nat) (w : World) (gr : Nat) (c1 c2 c3 c4 : Value) (s : PS) (h : RdP B w gr c1 c2 c3 c4 s) (v : Bool) (hv : decide (s.x = 0 ∧ s.toks ≠ []) = v) : Calls Tryz.prog 52 #[.pointer (some ⟨gr, 0, none⟩)] w (RetR B w gr c1 c2 c3 c4 (.bool v) s) := by
 have HP := Lib.hid h
 subst hv
 obtain ⟨A, n, c, hb, ht⟩ := h.blk
 have hn := ht.1
 obtain ⟨a0, _, _, _, _, a5⟩ := hb.c6
 clear hb ht h
 by_cases hx : s.x = 0
 ·rw [hx, errV_0] at a5
  by_cases ht : s.toks = []
  ·have e : decide (s.x = 0 ∧ s.toks ≠ []) = false := by simp [ht]
   rw [e]
   have hn0 : n = 0 := by rw [← hn, ht]; rfl
   subst hn0
   clear hn
   go_enter Tryz.func52, Tryz.ntmps52
   go_wp2_with fail
   go_ret
   exact ⟨rfl, HP.out, rg_refl _ _⟩
  ·have e : decide (s.x = 0 ∧ s.toks ≠ []) = true := by simp [ht, hx]
   rw [e]
   have hp : 0 < s.toks.length := List.length_pos_iff.2 ht
   have hn0 : (0 < n) = True := eq_true (by omega)
   clear hn
   go_enter Tryz.func52, Tryz.ntmps52
   go_wp2_with fail
   go_ret
   exact ⟨rfl, HP.out, rg_refl _ _⟩
 ·have e : decide (s.x = 0 ∧ s.toks ≠ []) = false := by simp [hx]
  rw [e]
  rw [eVp hx] at a5
  go_enter Tryz.func52, Tryz.ntmps52
  go_wp2_with fail
  go_ret
  exact ⟨rfl, HP.out, rg_refl _ _⟩
def RetN (B : Nat) (w : World) (gr : Nat) (c1 c2 c3 c4 : Value) (q : Rat) (s : PS) (e : Ending) (w' : World) : Prop :=
  ∃ b A n c D m e', e = .returned (.agg #[.bool b, .slice A n c, .slice D m e']) ∧ QV w' b A n c D m e' q 130 ∧ RdP B w' gr c1 c2 c3 c4 s ∧ w.grownBy w' (some gr)
theorem qv_zero (w : World) (k : Nat) : QV w false none 0 0 none 0 0 0 k := by
  unfold QV
  rw [rd_zero]
  exact ⟨rfl, Wd.nil_ w, Wd.nil_ w, Nat.zero_le _, Nat.zero_le _⟩
theorem QD.alloc_ {w : World} {b : Bool} {A D : Option Addr} {n c m e k : Nat} {r : RD} (h : QD w b A n c D m e r k) (o : Obj) : QD (w.alloc o) b A n c D m e r k := h.belw ((Below.refl _ _).alloc (Nat.le_refl _) o)
theorem number_fin {B : Nat} {w : World} {gr z n c n' c' : Nat} {A A' : Option Addr} {c1 c2 c3 c4 : Value} {s : PS} {t0 : Tkn} {r : List Tkn} (h : RdP B w gr c1 c2 c3 c4 s) (e : s.toks = t0 :: r)
    (hb : Blk w gr 100 #[.slice A n c, c1, c2, c3, c4, errV s.x]) (ht : TkA B w A n c s.toks) (hA : A' = if c = 1 then A else A.map (·.add 4)) (hn : n' = n - 1) (hc : c' = c - 1)
    (hz : gr < z) (Z : Blk w z 72 #[.bool false, .slice none 0 0, .slice none 0 0]) {b : Bool} {A2 D2 : Option Addr} {n2 d2 m2 e2 k : Nat} {q : RD} (hq : QD w b A2 n2 d2 D2 m2 e2 q k) (u0 u1 u2 : Value) (o : Obj) :
    QD (((((w.setCell ⟨gr, 0, none⟩ (.slice A' n' c')).setCell ⟨z, 0, none⟩ u0).setCell ⟨z, 1, none⟩ u1).setCell ⟨z, 2, none⟩ u2).alloc o) b A2 n2 d2 D2 m2 e2 q k ∧
    RdP B (((((w.setCell ⟨gr, 0, none⟩ (.slice A' n' c')).setCell ⟨z, 0, none⟩ u0).setCell ⟨z, 1, none⟩ u1).setCell ⟨z, 2, none⟩ u2).alloc o) gr c1 c2 c3 c4 s.drop1 := by
  have h1 := h.drop e hb ht hA hn hc
  have t1 : Tch TA w (w.setCell ⟨gr, 0, none⟩ (.slice A' n' c')) := h.tch (rg_set (rg_refl gr w) 0 _) rfl
  have Z1 : Blk (w.setCell ⟨gr, 0, none⟩ (.slice A' n' c')) z 72 #[.bool false, .slice none 0 0, .slice none 0 0] := Z.far (by show z ≠ gr; omega) _
  exact ⟨((hq.tch t1).tch (tch_sets Z1 rfl 0 1 2 u0 u1 u2)).alloc_ o, (h1.bel1 (bel_sets _ hz 0 1 2 u0 u1 u2)).alloc o⟩
theorem rd_number (B : Nat) (w : World) (gr : Nat) (c1 c2 c3 c4 : Value) (s : PS) (h : RdP B w gr c1 c2 c3 c4 s) : Calls Tryz.prog 113 #[.pointer (some ⟨gr, 0, none⟩)] w (RetN B w gr c1 c2 c3 c4 s.number.1 s.number.2) := by
 have HP := Lib.hid h
 have hlt := h.lt
 obtain ⟨W, hW⟩ : ∃ W, s.number = W := ⟨_, rfl⟩
 rw [hW]
 have HW := Lib.hid hW
 clear h hW
 go_enter Tryz.func113, Tryz.ntmps113
 go_wp2_with fail
 (with_reducible refine (rd_next B _ gr c1 c2 c3 c4 s (HP.out.alloc _) 1 1 rfl).mono ?_); rintro e w1 ⟨rfl, h1, hg1⟩
 have z1 : Blk w1 w.heap.size 72 #[.bool false, .slice none 0 0, .slice none 0 0] := rg_blk hg1 (Blk.new _ _ _) (by omega)
 have G1 : w.grownBy w1 (some gr) := rg_trans (rg_alloc (rg_refl gr w) _) hg1
 clear hg1
 have hlz := z1.lt
 have hW := HW.out
 unfold PS.number at hW
 generalize hq : s.next 1 = q at h1 hW
 obtain ⟨o, s'⟩ := q
 cases o with
 | none =>
  simp only [Option.getD_none, Option.isSome_none] at h1 hW ⊢
  subst hW
  obtain ⟨cz0, cz1, cz2⟩ := z1.c3
  obtain ⟨fz0, fz1, fz2⟩ := z1.f3
  have H1 := Lib.hid h1
  have Z1 := Lib.hid z1
  clear hq h1 z1 HW
  go_wp2_with fail
  refine bodyPost_ret (v := .agg #[.bool false, .slice none 0 0, .slice none 0 0]) (by simp [results, Tryz.results113, go_sem, *] <;> first | rfl | exact ⟨rfl, rfl⟩) rfl ?_
  exact ⟨_, _, _, _, _, _, _, rfl, qv_zero _ _, ((H1.out.far hlt _).far hlt _).far hlt _, rg_far (rg_far (rg_far G1 (Nat.le_refl _) _) (Nat.le_refl _) _) (Nat.le_refl _) _⟩
 | some t =>
  simp only [Option.getD_some, Option.isSome_some] at h1 hW ⊢
  obtain ⟨e, hx, t0, r, et, _, _⟩ := next_some hq
  have HV := Lib.hid (val_out t)
  generalize valX t = x at HV hW
  generalize valQ t = qv at HV hW
  have HE := Lib.hid (show s'.toks = t0 :: r by rw [e, et])
  have HX := Lib.hid (show s'.x = 0 by rw [e]; exact hx)
  have H1 := Lib.hid h1
  have Z1 := Lib.hid z1
  have HW2 := Lib.hid hW
  clear h1 hq e et hx z1 hW HW
  go_wp2_with fail
  (with_reducible refine (t_value_o _ t x qv H1.out.mx.out HV.out).mono ?_); rintro e w2 ⟨b2, A2, n2, d2, D2, m2, e2, rfl, h2, hb2⟩
  have G2 := rg_below G1 hb2
  have z2 := Z1.out.below hb2 hlz
  have r2 := H1.out.belw hb2
  have hlw := hb2.size
  clear hb2 G1
  have hgl := r2.lt
  have hlz2 := z2.lt
  have R2 := Lib.hid r2
  have Z2 := Lib.hid z2
  have HQ2 := Lib.hid h2
  obtain ⟨A, n, c, hb, ht⟩ := r2.blk
  have hB := r2.hB
  have HB := Lib.hid hb
  have HT := Lib.hid ht
  clear Z1 H1 r2 z2 h2 ht
  by_cases hx0 : x = 0
  ·have hW := HW2.out
   rw [if_neg (by simp [hx0])] at hW
   subst hW hx0
   rw [errV_0]
   have hn : (1 : Int) ≤ (n : Int) := by have := HT.out.1; rw [HE.out] at this; simp at this; omega
   have f0 := hb.frozen 0
   obtain ⟨a0, _, _, _, _, _⟩ := hb.c6
   obtain ⟨cz0, cz1, cz2⟩ := Z2.out.c3
   obtain ⟨fz0, fz1, fz2⟩ := Z2.out.f3
   clear hb HW2
   have hne1 : ¬ gr = w2.heap.size := by omega
   have hne2 : ¬ w.heap.size = w2.heap.size := by omega
   have hne3 : ¬ gr = w.heap.size := by omega
   go_wp2_with fail
   all_goals
    refine bodyPost_ret (v := .agg #[.bool b2, .slice A2 n2 d2, .slice D2 m2 e2]) (by simp [results, Tryz.results113, go_sem, *] <;> first | rfl | exact ⟨rfl, rfl⟩) rfl ?_
    exact ⟨_, _, _, _, _, _, _, rfl, (number_fin R2.out HE.out HB.out HT.out (by simp [Addr.add, *]) rfl (by omega) hlt Z2.out HQ2.out _ _ _ _).1, (number_fin R2.out HE.out HB.out HT.out (by simp [Addr.add, *]) rfl (by omega) hlt Z2.out HQ2.out _ _ _ _).2, rg_alloc (rg_far (rg_far (rg_far (rg_set G2 _ _) (Nat.le_refl _) _) (Nat.le_refl _) _) (Nat.le_refl _) _) _⟩
  ·have hW := HW2.out
   rw [if_pos hx0] at hW
   subst hW
   rw [eVp hx0]
   clear hb HW2
   go_wp2_with fail
   (with_reducible refine (rd_fail _ gr (.slice A n c) c1 c2 c3 c4 s'.x x (HB.out.alloc _) hx0).mono ?_); rintro e w3 ⟨rfl, hb3, hg3⟩
   rw [if_pos HX.out] at hb3
   have g3 := rg_trans (rg_alloc (rg_refl gr w2) _) hg3
   have z3 := rg_blk g3 Z2.out (by omega)
   obtain ⟨cz0, cz1, cz2⟩ := z3.c3
   obtain ⟨fz0, fz1, fz2⟩ := z3.f3
   have HB3 := Lib.hid hb3
   have hl3 := z3.lt
   clear hb3 hg3 z3
   go_wp2_with fail
   refine bodyPost_ret (v := .agg #[.bool false, .slice none 0 0, .slice none 0 0]) (by simp [results, Tryz.results113, go_sem, *] <;> first | rfl | exact ⟨rfl, rfl⟩) rfl ?_
   have e2 : s'.fail x = { s' with x := x } := if_pos HX.out
   rw [e2]
   have R3 : RdP B w3 gr c1 c2 c3 c4 { s' with x := x } := ⟨⟨A, n, c, HB3.out, HT.out.rg hB g3⟩, R2.out.mx.rg hB g3, hB, R2.out.len, R2.out.txt, R2.out.hw⟩
   exact ⟨_, _, _, _, _, _, _, rfl, qv_zero _ _, ((R3.far hlt _).far hlt _).far hlt _, rg_far (rg_far (rg_far (rg_trans G2 g3) (Nat.le_refl _) _) (Nat.le_refl _) _) (Nat.le_refl _) _⟩
end Go.Proofs.YtoiijifnfdgfpaaGreatDoor

/- Walks: the reader: body. -/
namespace Go.Proofs.YtoiijifnfdgfpaaGreatDoor
open Go Go.RowKit Bn
attribute [local go_sem ↓] Go.wp_at_zero Go.wp_at_succ
def RetBd (B : Nat) (w : World) (gr : Nat) (c1 c2 c3 c4 : Value) (b : BodyL) (s : PS) (e : Ending) (w' : World) : Prop :=
  ∃ A n c, e = .returned (.agg #[strV b.name, .slice A n c]) ∧ MksT 130 w' A n c b.pts ∧ NmL b.name ∧ RdP B w' gr c1 c2 c3 c4 s ∧ w.grownBy w' (some gr)
section
variable {w : World} {g t : Nat} {a0 a1 a2 a3 a4 a5 a6 : Value}
theorem Blk.x7 (h : Blk w g t #[a0, a1, a2, a3, a4, a5, a6]) (u0 u1 u2 : Value) : Blk (((w.setCell ⟨g, 1, none⟩ u0).setCell ⟨g, 2, none⟩ u1).setCell ⟨g, 3, none⟩ u2) g t #[a0, u0, u1, u2, a4, a5, a6] := ((h.set_ 1 u0).set_ 2 u1).set_ 3 u2
theorem Blk.y7 (h : Blk w g t #[a0, a1, a2, a3, a4, a5, a6]) (u0 u1 u2 : Value) : Blk (((w.setCell ⟨g, 4, none⟩ u0).setCell ⟨g, 5, none⟩ u1).setCell ⟨g, 6, none⟩ u2) g t #[a0, a1, a2, a3, u0, u1, u2] := ((h.set_ 4 u0).set_ 5 u1).set_ 6 u2
theorem Blk.f7 (h : Blk w g t #[a0, a1, a2, a3, a4, a5, a6]) : w.frozen? ⟨g, 0, none⟩ = false ∧ w.frozen? ⟨g, 1, none⟩ = false ∧ w.frozen? ⟨g, 2, none⟩ = false ∧ w.frozen? ⟨g, 3, none⟩ = false ∧ w.frozen? ⟨g, 4, none⟩ = false ∧ w.frozen? ⟨g, 5, none⟩ = false ∧ w.frozen? ⟨g, 6, none⟩ = false := ⟨h.frozen 0, h.frozen 1, h.frozen 2, h.frozen 3, h.frozen 4, h.frozen 5, h.frozen 6⟩
theorem Blk.s21 (h : Blk w g t #[a0, a1]) (u : Value) : Blk (w.setCell ⟨g, 1, none⟩ u) g t #[a0, u] := h.set_ 1 u
end
theorem MksT.of_row {w : World} {base n c : Nat} {A : Option Addr} {l : List MarkL} (h : RowT 85 (MkC 130) 7 w base (.slice A n c) n l) : MksT 130 w A n c l := h.slT fun _ _ _ _ h1 h2 => h1.at_ h2
theorem OwJ.far {J : Value → Bool} {w : World} {base n size : Nat} {e : TypeId} {v : Value} {xs : List Value} (h : OwJ J w base e size v n xs) {p : Addr} (hp : some p.block ≠ v.ownBlock) (u : Value) : OwJ J (w.setCell p u) base e size v n xs := by
  refine ⟨h.1, ?_⟩
  rcases h.2 with h1 | ⟨g, cap, cur, rfl, h2, h3, h4⟩
  · exact .inl h1
  · exact .inr ⟨g, cap, cur, rfl, h2, (Below.heap_setCell w p u g (fun e => hp (by simp [Value.ownBlock, e]))).trans h3, h4⟩
theorem own_ne {J : Value → Bool} {w : World} {base n size g t : Nat} {e : TypeId} {v : Value} {xs : List Value} {cs : Array Value} (h : OwJ J w base e size v n xs) (hb : Blk w g t cs) (ht : t ≠ e) : some g ≠ v.ownBlock := by
  intro e1
  obtain ⟨_, cur, h2, _⟩ := h.at_ e1.symm
  unfold Blk at hb
  rw [h2] at hb
  injection hb with hb
  injection hb with _ hb
  exact ht hb.symm
theorem TkA.first {B : Nat} {w : World} {A : Option Addr} {n c : Nat} {s : PS} (ht : TkA B w A n c s.toks) : (n = 0 ∧ s.signHead = false) ∨ (0 < n ∧ ∃ g o, ∃ k : Nat, A = some ⟨g, o, none⟩ ∧ w.cell? ⟨g, o, none⟩ = some (.int .i64 (k : Nat)) ∧ s.signHead = decide (k = 2)) := by
  obtain ⟨toks, L, x⟩ := s
  cases toks with
  | nil => exact .inl ⟨ht.1.symm, rfl⟩
  | cons t r =>
    obtain ⟨g, o, e, _, d0, _⟩ := ht.head
    refine .inr ⟨by rw [← ht.1]; simp, g, o, t.kind, e, d0, ?_⟩
    show (t.kind == 2) = _
    rfl
structure BdR (B : Nat) (w : World) (gr gb : Nat) (c1 c2 c3 c4 : Value) (nm : List UInt8) (wr : World) (s : PS) (l : List MarkL) (pv : Value) : Prop where
  rd : RdP B wr gr c1 c2 c3 c4 s
  rg : w.grownBy wr (some gr)
  out : Blk wr w.heap.size 56 #[strV [], .slice none 0 0]
  b : Blk wr gb 56 #[strV nm, pv]
  row : RowT 85 (MkC 130) 7 wr gb pv l.length l
  lt : gr < w.heap.size ∧ w.heap.size < gb
section
variable {B : Nat} {w : World} {gr gb : Nat} {c1 c2 c3 c4 : Value} {nm : List UInt8} {wr w3 : World} {s s3 : PS} {l : List MarkL} {pv : Value}
theorem BdR.call (h : BdR B w gr gb c1 c2 c3 c4 nm wr s l pv) (h3 : RdP B w3 gr c1 c2 c3 c4 s3) (g3 : wr.grownBy w3 (some gr)) : BdR B w gr gb c1 c2 c3 c4 nm w3 s3 l pv :=
  ⟨h3, rg_trans h.rg g3, rg_blk g3 h.out (by have := h.lt; omega), rg_blk g3 h.b (by have := h.lt; omega), h.row.rg (by have := h.lt; omega) g3 (fun _ _ x => x.tch (h.rd.tch g3 (T := TA) rfl)), h.lt⟩
theorem BdR.fin {A : Option Addr} {n c : Nat} (h : BdR B w gr gb c1 c2 c3 c4 nm wr s l (.slice A n c)) (u v : Value) : RdP B ((wr.setCell ⟨w.heap.size, 0, none⟩ u).setCell ⟨w.heap.size, 1, none⟩ v) gr c1 c2 c3 c4 s ∧ w.grownBy ((wr.setCell ⟨w.heap.size, 0, none⟩ u).setCell ⟨w.heap.size, 1, none⟩ v) (some gr) ∧ MksT 130 ((wr.setCell ⟨w.heap.size, 0, none⟩ u).setCell ⟨w.heap.size, 1, none⟩ v) A n c l := by
  obtain ⟨h1, h2⟩ := h.lt
  refine ⟨(h.rd.far h1 _).far h1 _, rg_far (rg_far h.rg (Nat.le_refl _) _) (Nat.le_refl _) _, ?_⟩
  have hn : l.length = n := by
    obtain ⟨A', c', e, _⟩ := h.row.form
    injection e with _ e _
    exact e.symm
  have hr := h.row
  rw [hn] at hr
  have ht : Tch TA wr ((wr.setCell ⟨w.heap.size, 0, none⟩ u).setCell ⟨w.heap.size, 1, none⟩ v) :=
    Tch.of_ne (by simp [World.setCell]) h.out rfl rfl fun g' _ hne => by rw [Below.heap_setCell _ _ _ _ hne, Below.heap_setCell _ _ _ _ hne]
  exact MksT.of_row (hr.same (fun g cur hg hc => by rw [Below.heap_setCell _ _ _ _ (by show g ≠ w.heap.size; omega), Below.heap_setCell _ _ _ _ (by show g ≠ w.heap.size; omega)]; exact hc) (fun _ _ x => x.tch ht))
theorem BdR.b5 {xs : List Value} {w5 : World} (h : BdR B w gr gb c1 c2 c3 c4 nm wr s l pv) (hown : OwJ noW wr gb 85 7 pv l.length xs) (o : Obj) (hgrow : (wr.alloc o).grownBy w5 pv.ownBlock) : Blk w5 gb 56 #[strV nm, pv] :=
  (h.b.alloc o).grown hgrow (own_ne hown h.b (by decide))
theorem BdR.push {xs : List Value} {w5 : World} {v' : Value} {cs : List Value} {m : MarkL} {o : Obj} (h : BdR B w gr gb c1 c2 c3 c4 nm wr s l pv) (hown : OwJ noW wr gb 85 7 pv l.length xs) (hrow : RowC (MkC 130) 7 wr l xs)
    (hm : MkC 130 wr cs m) (hcs : cs.length = 7) (hown5 : OwJ noW w5 gb 85 7 v' (l.length + 1) (xs ++ cs)) (hgrow : (wr.alloc o).grownBy w5 pv.ownBlock) : BdR B w gr gb c1 c2 c3 c4 nm (w5.setCell ⟨gb, 1, none⟩ v') s (l ++ [m]) v' := by
  obtain ⟨h1, h2⟩ := h.lt
  have b5 := h.b5 hown o hgrow
  have hs := h.b.lt
  have hb5 : Below gb wr w5 := ((Below.refl gb wr).alloc (by omega) o).grown hgrow (by simp; omega) (fun k hk => (hown.at_ hk).1)
  have hb6 : Below gb wr (w5.setCell ⟨gb, 1, none⟩ v') := hb5.setCell (p := ⟨gb, 1, none⟩) (Nat.le_refl _) v'
  have hownA : OwJ noW (wr.alloc o) gb 85 7 pv l.length xs := hown.belw ((Below.refl _ _).alloc (Nat.le_refl _) o)
  obtain ⟨A, c, hpv, _⟩ := h.row.form
  have ht : Tch TA wr (w5.setCell ⟨gb, 1, none⟩ v') := ((Tch.below ((Below.refl _ _).alloc (Nat.le_refl _) o)).trans (Tch.grown (T := TA) (fun _ hu => hu) rfl hownA hgrow)).trans (Tch.set b5 rfl (by rw [hpv]; rfl) 1 v')
  have hl : (l ++ [m]).length = l.length + 1 := by simp
  refine ⟨h.rd.bel1 (hb6.mono (by omega)), rg_bel1 h.rg (hb6.mono (by omega)), h.out.below hb6 h2, b5.s21 v', ?_, h.lt⟩
  rw [hl]
  exact ⟨hl, xs ++ cs, hown5.far (own_ne hown5 b5 (by decide)) v', (hrow.map_ fun _ _ x => x.tch ht).snoc (hm.tch ht) hcs⟩
end
theorem rd_body (B : Nat) (w : World) (gr : Nat) (c1 c2 c3 c4 : Value) (s : PS) (h : RdP B w gr c1 c2 c3 c4 s) : Calls Tryz.prog 65 #[.pointer (some ⟨gr, 0, none⟩)] w (RetBd B w gr c1 c2 c3 c4 s.body.1 s.body.2) := by
 obtain ⟨i0, hi0, hz0, hz1, hz2⟩ := info_parts info_mk
 have HI := Lib.hid (And.intro hi0 (And.intro hz0 (And.intro hz1 hz2)))
 clear hi0 hz0 hz1 hz2
 unfold PS.body
 obtain ⟨R, hR⟩ : ∃ R, PS.marks (s.toks.length + 1) (s.word.2.expect 2 [123]) [] = R := ⟨_, rfl⟩
 simp only [hR]
 have HR := Lib.hid hR
 have HP := Lib.hid h
 have hlt := h.lt
 have HN := Lib.hid (word_nm h.txt)
 clear h hR
 go_enter Tryz.func65, Tryz.ntmps65
 go_wp2_with fail
 (with_reducible refine (rd_word B _ gr c1 c2 c3 c4 s (HP.out.alloc _)).mono ?_); rintro e w1 ⟨rfl, h1, hg1⟩
 have z1 : Blk w1 w.heap.size 56 #[strV [], .slice none 0 0] := rg_blk hg1 (Blk.new _ _ _) (by omega)
 have G1 : w.grownBy w1 (some gr) := rg_trans (rg_alloc (rg_refl gr w) _) hg1
 have hlz := z1.lt
 have hl1 := h1.lt
 have H1 := Lib.hid h1
 clear hg1 h1
 go_wp2_with fail
 (with_reducible refine (rd_sign B _ gr c1 c2 c3 c4 s.word.2 (H1.out.alloc _) [123]).mono ?_); rintro e w2 ⟨rfl, h2, hg2⟩
 have z2 : Blk w2 w.heap.size 56 #[strV [], .slice none 0 0] := rg_blk hg2 (z1.alloc _) (by omega)
 have b2 : Blk w2 w1.heap.size 56 #[strV s.word.1, .slice none 0 0] := rg_blk hg2 (Blk.new _ _ _) (by omega)
 have G2 : w.grownBy w2 (some gr) := rg_trans (rg_alloc G1 _) hg2
 clear z1 G1 H1 hg2
 generalize w1.heap.size = gb at hlz hl1 b2 ⊢
 have HB2 := Lib.hid b2
 have HZ2 := Lib.hid z2
 have H2 := Lib.hid h2
 clear b2 z2 h2
 go_wp2_with fail
 go_loopw [] (fun wr => ∃ f s' l pv, BdR B w gr gb c1 c2 c3 c4 s.word.1 wr s' l pv ∧ (s'.x = 0 → s'.toks.length < f ∧ l.length + s'.toks.length ≤ 65536) ∧ Hid (PS.marks f s' l = R)) (fun wr => mOf gr wr)
 case atStart =>
  have hst := (word_stp s).trans (expect_stp s.word.2 2 [123])
  have h6 := HP.out.len
  exact ⟨_, _, [], _, ⟨H2.out, G2, HZ2.out, HB2.out, RowT.nil, hlt, hlz⟩, fun _ => ⟨by have := hst.1; omega, by have := hst.1; simp; omega⟩, HR⟩
 case round =>
  clear HR H2 HZ2 HB2 G2
  obtain ⟨f, s', l, pv, hbr, hfl, HR⟩ := hrel
  obtain ⟨A, n, c, hb, ht⟩ := hbr.rd.blk
  obtain ⟨a0, _, _, _, _, a5⟩ := hb.c6
  obtain ⟨Ap, cp, rfl, hcp⟩ := hbr.row.form
  have HBR := Lib.hid hbr
  clear hb hbr
  by_cases hx : s'.x = 0
  ·rw [hx, errV_0] at a5
   obtain ⟨hf1, hf2⟩ := hfl hx
   have hff : 0 < f := by omega
   rcases ht.first with ⟨hn0, hs⟩ | ⟨hn0, g, o, k, e, d0, hs⟩
   rotate_left
   ·subst e
    rw [show decide (k = 2) = _ from rfl] at hs
    have hi0 : (0 : Int) < (n : Int) := by omega
    have hi1 : (0 < n) = True := eq_true hn0
    clear ht
    by_cases hk : k = 2
    ·have hk1 : ((k : Int) == 2) = true := by simp [hk]
     have hRl := marks_end (l := l) hff hx (by rw [hs]; simp [hk])
     rw [HR.out] at hRl
     subst hRl
     clear hs hfl
     go_wp2_with fail
     (with_reducible refine (rd_sign B _ gr c1 c2 c3 c4 s' HBR.out.rd [125]).mono ?_); rintro e w3 ⟨rfl, h3, hg3⟩
     have HB3 := Lib.hid (HBR.out.call h3 hg3)
     obtain ⟨cz0, cz1⟩ := HB3.out.out.c2
     obtain ⟨fz0, fz1⟩ := HB3.out.out.f2
     obtain ⟨cb0, cb1⟩ := HB3.out.b.c2
     have hne : ¬ gb = w.heap.size := by omega
     clear h3 hg3
     go_wp2_with fail
     refine bodyPost_ret (v := .agg #[strV s.word.1, .slice Ap l.length cp]) (by simp [results, Tryz.results65, go_sem, *] <;> first | rfl | exact ⟨rfl, rfl⟩) rfl ?_
     exact ⟨_, _, _, rfl, (HB3.out.fin _ _).2.2, HN.out, (HB3.out.fin _ _).1, (HB3.out.fin _ _).2.1⟩
    ·have hk1 : ((k : Int) == 2) = false := beq_eq_false_iff_ne.2 (by omega)
     have hs2 : s'.signHead = false := by rw [hs]; simp [hk]
     clear hs
     have HS2 := Lib.hid hs2
     clear hs2
     go_wp2_with fail
     (with_reducible refine (rd_word B _ gr c1 c2 c3 c4 s' HBR.out.rd).mono ?_); rintro e w3 ⟨rfl, h3, hg3⟩
     have hnm := Lib.hid (word_nm HBR.out.rd.txt)
     have hl3 := h3.lt
     have hw3 := hg3.size
     have H3 := Lib.hid h3
     clear h3 a0 a5
     go_wp2_with fail
     (with_reducible refine (rd_number B _ gr c1 c2 c3 c4 s'.word.2 (H3.out.alloc _)).mono ?_); rintro e w4 ⟨b4, A4, n4, d4, D4, m4, e4, rfl, q4, h4, hg4⟩
     have p4 : Blk w4 w3.heap.size 85 #[strV s'.word.1, .bool false, .slice none 0 0, .slice none 0 0, .bool false, .slice none 0 0, .slice none 0 0] := rg_blk hg4 (Blk.new _ _ _) (by omega)
     have g4 : wr.grownBy w4 (some gr) := rg_trans (rg_alloc hg3 _) hg4
     have hlp4 := p4.lt
     obtain ⟨_, fp1, fp2, fp3, _⟩ := p4.f7
     obtain ⟨_, cq1, cq2, cq3, _⟩ := p4.c7
     have P4 := Lib.hid p4
     have H4 := Lib.hid h4
     have Q4 := Lib.hid q4
     clear p4 h4 q4 hg4 hg3 H3
     go_wp2_with fail
     (with_reducible refine (rd_number B _ gr c1 c2 c3 c4 s'.word.2.number.2 (H4.out.bel1 (bel_sets w4 hl3 1 2 3 (.bool b4) (.slice A4 n4 d4) (.slice D4 m4 e4)))).mono ?_); rintro e w5 ⟨b5, A5, n5, d5, D5, m5, e5, rfl, q5, h5, hg5⟩
     have p5 := rg_blk hg5 (P4.out.x7 (.bool b4) (.slice A4 n4 d4) (.slice D4 m4 e4)) (by omega)
     have g5 : wr.grownBy w5 (some gr) := rg_trans (rg_bel1 g4 (bel_sets w4 hw3 1 2 3 (.bool b4) (.slice A4 n4 d4) (.slice D4 m4 e4))) hg5
     have q45 := (Q4.out.tch (tch_sets P4.out rfl 1 2 3 (.bool b4) (.slice A4 n4 d4) (.slice D4 m4 e4))).tch ((H4.out.bel1 (bel_sets w4 hl3 1 2 3 (.bool b4) (.slice A4 n4 d4) (.slice D4 m4 e4))).tch hg5 (T := TA) rfl)
     have hlp5 := p5.lt
     obtain ⟨_, _, _, _, fr4, fr5, fr6⟩ := p5.f7
     obtain ⟨_, _, _, _, cr4, cr5, cr6⟩ := p5.c7
     have P5 := Lib.hid p5
     have H5 := Lib.hid h5
     have Q45 := Lib.hid q45
     have Q5 := Lib.hid q5
     clear p5 h5 q5 q45 hg5 g4 P4 H4 Q4 fp1 fp2 fp3 cq1 cq2 cq3
     go_wp2_with fail
     (with_reducible refine (rd_sign B _ gr c1 c2 c3 c4 s'.word.2.number.2.number.2 (H5.out.bel1 (bel_sets w5 hl3 4 5 6 (.bool b5) (.slice A5 n5 d5) (.slice D5 m5 e5))) [59]).mono ?_); rintro e w6 ⟨rfl, h6, hg6⟩
     have p6 := rg_blk hg6 (P5.out.y7 (.bool b5) (.slice A5 n5 d5) (.slice D5 m5 e5)) (by omega)
     have g6 : wr.grownBy w6 (some gr) := rg_trans (rg_bel1 g5 (bel_sets w5 hw3 4 5 6 (.bool b5) (.slice A5 n5 d5) (.slice D5 m5 e5))) hg6
     have t6 := (tch_sets P5.out rfl 4 5 6 (.bool b5) (.slice A5 n5 d5) (.slice D5 m5 e5)).trans ((H5.out.bel1 (bel_sets w5 hl3 4 5 6 (.bool b5) (.slice A5 n5 d5) (.slice D5 m5 e5))).tch hg6 (T := TA) rfl)
     have HM := Lib.hid (show MkC 130 w6 [strV s'.word.1, .bool b4, .slice A4 n4 d4, .slice D4 m4 e4, .bool b5, .slice A5 n5 d5, .slice D5 m5 e5] s'.mark.1 from ⟨b4, A4, n4, d4, D4, m4, e4, b5, A5, n5, d5, D5, m5, e5, rfl, Q45.out.tch t6, Q5.out.tch t6, hnm.out⟩)
     have HB6 := Lib.hid (show BdR B w gr gb c1 c2 c3 c4 s.word.1 w6 s'.mark.2 l (.slice Ap l.length cp) from HBR.out.call h6 g6)
     obtain ⟨_, xs, hown, hrow⟩ := HB6.out.row
     have HO := Lib.hid hown
     have HW := Lib.hid hrow
     obtain ⟨cb0, cb1⟩ := HB6.out.b.c2
     obtain ⟨cp0, cp1, cp2, cp3, cp4, cp5, cp6⟩ := p6.c7
     have hlb := HB6.out.b.lt
     have hlp6 := p6.lt
     clear h6 hg6 hown hrow p6 t6 g5 g6 P5 H5 Q45 Q5 fr4 fr5 fr6 cr4 cr5 cr6
     go_wp2_with (at_builtin; refine wpList_append_J _ rfl noW _ _ _ rfl gb 85 i0 (.agg #[.string ⟨#[]⟩, .bool false, .slice none 0 0, .slice none 0 0, .bool false, .slice none 0 0, .slice none 0 0]) 7 128 Tryz.underlying54 HI.out.1 HI.out.2.1 HI.out.2.2.1 HI.out.2.2.2 rfl (by omega) rfl _ l.length xs rfl (HO.out.belw ((Below.refl _ _).alloc (Nat.le_refl _) _)) ⟨w6.heap.size, 0, none⟩ 1 1 [_, _, _, _, _, _, _] rfl rfl (World.news_of_block (heap_alloc_new w6 _)) (by simp [Value.oneCell']) rfl (by omega) (by unfold maxLen; omega) (by omega) (by simp; omega) ?_; intro gx cap w7 hown7 hgrow hat; have fb7 := (HB6.out.b5 HO.out _ hgrow).frozen 1; obtain ⟨ce0, ce1⟩ := (HB6.out.b5 HO.out _ hgrow).c2)
     have hst := mark_stp s'
     have hR2 := marks_step (l := l) hff hx HS2.out
     rw [HR.out] at hR2
     go_roundw
     case rel =>
      refine ⟨f - 1, s'.mark.2, l ++ [s'.mark.1], _, HB6.out.push HO.out HW.out HM.out rfl hown7 hgrow, fun hz => ?_, Lib.hid hR2.symm⟩
      have h9 := (hst.2.2.1 hz).2
      rw [List.length_append, List.length_singleton]
      omega
     case measure =>
      rw [(HB6.out.push HO.out HW.out HM.out rfl hown7 hgrow).rd.meas, HBR.out.rd.meas, if_pos hx]
      have h8 := hst.1
      by_cases hz : s'.mark.2.x = 0
      ·have h9 := (hst.2.2.1 hz).2
       rw [if_pos hz]; omega
      ·rw [if_neg hz]; omega
   ·subst hn0
    have hs2 : s'.signHead = false := hs
    clear hs ht
    have HS2 := Lib.hid hs2
    clear hs2
    go_wp2_with fail
    (with_reducible refine (rd_word B _ gr c1 c2 c3 c4 s' HBR.out.rd).mono ?_); rintro e w3 ⟨rfl, h3, hg3⟩
    have hnm := Lib.hid (word_nm HBR.out.rd.txt)
    have hl3 := h3.lt
    have hw3 := hg3.size
    have H3 := Lib.hid h3
    clear h3 a0 a5
    go_wp2_with fail
    (with_reducible refine (rd_number B _ gr c1 c2 c3 c4 s'.word.2 (H3.out.alloc _)).mono ?_); rintro e w4 ⟨b4, A4, n4, d4, D4, m4, e4, rfl, q4, h4, hg4⟩
    have p4 : Blk w4 w3.heap.size 85 #[strV s'.word.1, .bool false, .slice none 0 0, .slice none 0 0, .bool false, .slice none 0 0, .slice none 0 0] := rg_blk hg4 (Blk.new _ _ _) (by omega)
    have g4 : wr.grownBy w4 (some gr) := rg_trans (rg_alloc hg3 _) hg4
    have hlp4 := p4.lt
    obtain ⟨_, fp1, fp2, fp3, _⟩ := p4.f7
    obtain ⟨_, cq1, cq2, cq3, _⟩ := p4.c7
    have P4 := Lib.hid p4
    have H4 := Lib.hid h4
    have Q4 := Lib.hid q4
    clear p4 h4 q4 hg4 hg3 H3
    go_wp2_with fail
    (with_reducible refine (rd_number B _ gr c1 c2 c3 c4 s'.word.2.number.2 (H4.out.bel1 (bel_sets w4 hl3 1 2 3 (.bool b4) (.slice A4 n4 d4) (.slice D4 m4 e4)))).mono ?_); rintro e w5 ⟨b5, A5, n5, d5, D5, m5, e5, rfl, q5, h5, hg5⟩
    have p5 := rg_blk hg5 (P4.out.x7 (.bool b4) (.slice A4 n4 d4) (.slice D4 m4 e4)) (by omega)
    have g5 : wr.grownBy w5 (some gr) := rg_trans (rg_bel1 g4 (bel_sets w4 hw3 1 2 3 (.bool b4) (.slice A4 n4 d4) (.slice D4 m4 e4))) hg5
    have q45 := (Q4.out.tch (tch_sets P4.out rfl 1 2 3 (.bool b4) (.slice A4 n4 d4) (.slice D4 m4 e4))).tch ((H4.out.bel1 (bel_sets w4 hl3 1 2 3 (.bool b4) (.slice A4 n4 d4) (.slice D4 m4 e4))).tch hg5 (T := TA) rfl)
    have hlp5 := p5.lt
    obtain ⟨_, _, _, _, fr4, fr5, fr6⟩ := p5.f7
    obtain ⟨_, _, _, _, cr4, cr5, cr6⟩ := p5.c7
    have P5 := Lib.hid p5
    have H5 := Lib.hid h5
    have Q45 := Lib.hid q45
    have Q5 := Lib.hid q5
    clear p5 h5 q5 q45 hg5 g4 P4 H4 Q4 fp1 fp2 fp3 cq1 cq2 cq3
    go_wp2_with fail
    (with_reducible refine (rd_sign B _ gr c1 c2 c3 c4 s'.word.2.number.2.number.2 (H5.out.bel1 (bel_sets w5 hl3 4 5 6 (.bool b5) (.slice A5 n5 d5) (.slice D5 m5 e5))) [59]).mono ?_); rintro e w6 ⟨rfl, h6, hg6⟩
    have p6 := rg_blk hg6 (P5.out.y7 (.bool b5) (.slice A5 n5 d5) (.slice D5 m5 e5)) (by omega)
    have g6 : wr.grownBy w6 (some gr) := rg_trans (rg_bel1 g5 (bel_sets w5 hw3 4 5 6 (.bool b5) (.slice A5 n5 d5) (.slice D5 m5 e5))) hg6
    have t6 := (tch_sets P5.out rfl 4 5 6 (.bool b5) (.slice A5 n5 d5) (.slice D5 m5 e5)).trans ((H5.out.bel1 (bel_sets w5 hl3 4 5 6 (.bool b5) (.slice A5 n5 d5) (.slice D5 m5 e5))).tch hg6 (T := TA) rfl)
    have HM := Lib.hid (show MkC 130 w6 [strV s'.word.1, .bool b4, .slice A4 n4 d4, .slice D4 m4 e4, .bool b5, .slice A5 n5 d5, .slice D5 m5 e5] s'.mark.1 from ⟨b4, A4, n4, d4, D4, m4, e4, b5, A5, n5, d5, D5, m5, e5, rfl, Q45.out.tch t6, Q5.out.tch t6, hnm.out⟩)
    have HB6 := Lib.hid (show BdR B w gr gb c1 c2 c3 c4 s.word.1 w6 s'.mark.2 l (.slice Ap l.length cp) from HBR.out.call h6 g6)
    obtain ⟨_, xs, hown, hrow⟩ := HB6.out.row
    have HO := Lib.hid hown
    have HW := Lib.hid hrow
    obtain ⟨cb0, cb1⟩ := HB6.out.b.c2
    obtain ⟨cp0, cp1, cp2, cp3, cp4, cp5, cp6⟩ := p6.c7
    have hlb := HB6.out.b.lt
    have hlp6 := p6.lt
    clear h6 hg6 hown hrow p6 t6 g5 g6 P5 H5 Q45 Q5 fr4 fr5 fr6 cr4 cr5 cr6
    go_wp2_with (at_builtin; refine wpList_append_J _ rfl noW _ _ _ rfl gb 85 i0 (.agg #[.string ⟨#[]⟩, .bool false, .slice none 0 0, .slice none 0 0, .bool false, .slice none 0 0, .slice none 0 0]) 7 128 Tryz.underlying54 HI.out.1 HI.out.2.1 HI.out.2.2.1 HI.out.2.2.2 rfl (by omega) rfl _ l.length xs rfl (HO.out.belw ((Below.refl _ _).alloc (Nat.le_refl _) _)) ⟨w6.heap.size, 0, none⟩ 1 1 [_, _, _, _, _, _, _] rfl rfl (World.news_of_block (heap_alloc_new w6 _)) (by simp [Value.oneCell']) rfl (by omega) (by unfold maxLen; omega) (by omega) (by simp; omega) ?_; intro gx cap w7 hown7 hgrow hat; have fb7 := (HB6.out.b5 HO.out _ hgrow).frozen 1; obtain ⟨ce0, ce1⟩ := (HB6.out.b5 HO.out _ hgrow).c2)
    have hst := mark_stp s'
    have hR2 := marks_step (l := l) hff hx HS2.out
    rw [HR.out] at hR2
    go_roundw
    case rel =>
     refine ⟨f - 1, s'.mark.2, l ++ [s'.mark.1], _, HB6.out.push HO.out HW.out HM.out rfl hown7 hgrow, fun hz => ?_, Lib.hid hR2.symm⟩
     have h9 := (hst.2.2.1 hz).2
     rw [List.length_append, List.length_singleton]
     omega
    case measure =>
     rw [(HB6.out.push HO.out HW.out HM.out rfl hown7 hgrow).rd.meas, HBR.out.rd.meas, if_pos hx]
     have h8 := hst.1
     by_cases hz : s'.mark.2.x = 0
     ·have h9 := (hst.2.2.1 hz).2
      rw [if_pos hz]; omega
     ·rw [if_neg hz]; omega
  ·rw [eVp hx] at a5
   have hz := HBR.out.out
   have hbb := HBR.out.b
   obtain ⟨cz0, cz1⟩ := hz.c2
   obtain ⟨fz0, fz1⟩ := hz.f2
   obtain ⟨cb0, cb1⟩ := hbb.c2
   have hne : ¬ gb = w.heap.size := by omega
   have hRl := marks_x (f := f) (l := l) hx
   rw [HR.out] at hRl
   subst hRl
   clear hz hbb hfl ht
   go_wp2_with fail
   refine bodyPost_ret (v := .agg #[strV s.word.1, .slice Ap l.length cp]) (by simp [results, Tryz.results65, go_sem, *] <;> first | rfl | exact ⟨rfl, rfl⟩) rfl ?_
   exact ⟨_, _, _, rfl, (HBR.out.fin _ _).2.2, HN.out, (HBR.out.fin _ _).1, (HBR.out.fin _ _).2.1⟩
end Go.Proofs.YtoiijifnfdgfpaaGreatDoor

/- Walks: the reader: named, full. -/
namespace Go.Proofs.YtoiijifnfdgfpaaGreatDoor
open Go Go.RowKit Bn
attribute [local go_sem ↓] Go.wp_at_zero Go.wp_at_succ
theorem idx_hit {α : Type} {f : α → List UInt8} {l : List α} {nm : List UInt8} {i : Nat} {b : α} (h : ∀ a ∈ l.take i, f a ≠ nm) (hb : l[i]? = some b) (e : f b = nm) : l.findIdx? (fun x => f x == nm) = some i := by
  rw [List.findIdx?_eq_some_iff_getElem]
  obtain ⟨hi, hb⟩ := List.getElem?_eq_some_iff.1 hb
  refine ⟨hi, by rw [hb]; simp [e], fun j hj => ?_⟩
  have hm : l[j]'(by omega) ∈ l.take i := by
    rw [List.mem_take_iff_getElem]
    exact ⟨j, by omega, rfl⟩
  simpa using h _ hm
theorem idx_none {α : Type} {f : α → List UInt8} {l : List α} {nm : List UInt8} (h : ∀ a ∈ l, f a ≠ nm) : l.findIdx? (fun x => f x == nm) = none := by
  rw [List.findIdx?_eq_none_iff]
  intro x hx
  simpa using h x hx
theorem take_step {α : Type} {p : α → Prop} {l : List α} {i : Nat} {b : α} (h : ∀ a ∈ l.take i, p a) (hb : l[i]? = some b) (hp : p b) : ∀ a ∈ l.take (i + 1), p a := by
  intro a ha
  rw [List.take_add_one, hb] at ha
  simp at ha
  rcases ha with ha | rfl
  · exact h a ha
  · exact hp
section
variable {w w' : World} {gr base n c : Nat} {A : Option Addr} {cs : Array Value}
theorem RowT.rgt {α : Type} {T0 : TypeId} {Pc : World → List Value → α → Prop} {sz : Nat} {v : Value} {l : List α} (h : RowT T0 Pc sz w base v n l) (hb : Blk w gr 100 cs) (hne : T0 ≠ 100) (k : w.grownBy w' (some gr)) (hP : ∀ cs a, Pc w cs a → Pc w' cs a) : RowT T0 Pc sz w' base v n l :=
  h.same (fun g cur _ hc => rg_blks k hc (fun e => by
    subst e
    unfold Blk at hb
    rw [hb] at hc
    injection hc with hc
    injection hc with _ hc
    exact hne hc.symm)) hP
theorem RowT.bds {k : Nat} {l : List BodyL} (h : RowT 56 (BdC k) 2 w base (.slice A n c) n l) : SlS (BdAt k) 2 w A n c l := (h.slT (P := BdAt k) fun _ _ _ _ h1 h2 => h1.at_ h2).sl fun _ _ _ p => p
theorem RowT.jts {l : List JointL} (h : RowT 60 JtC 7 w base (.slice A n c) n l) : SlS JtAt 7 w A n c l := (h.slT (P := JtAt) fun _ _ _ _ h1 h2 => h1.at_ h2).sl fun _ _ _ p => p
theorem RowT.drs {l : List DriverL} (h : RowT 58 DrC 2 w base (.slice A n c) n l) : SlS DrAt 2 w A n c l := (h.slT (P := DrAt) fun _ _ _ _ h1 h2 => h1.at_ h2).sl fun _ _ _ p => p
end
theorem RdP.bodies {B : Nat} {w w' : World} {gr n c : Nat} {A : Option Addr} {c1 c2 c3 c4 : Value} {s : PS} {l : List BodyL} (h : RdP B w gr c1 c2 c3 c4 s) (hr : RowT 56 (BdC 130) 2 w B (.slice A n c) n l) (k : w.grownBy w' (some gr)) : RowT 56 (BdC 130) 2 w' B (.slice A n c) n l := by
  obtain ⟨_, _, _, hb, _⟩ := h.blk
  exact hr.rgt hb (by decide) k fun _ _ x => x.tch (T := fun t => t == 100) (h.tch k rfl) (by decide)
theorem rd_named (B : Nat) (w : World) (gr : Nat) (c1 c3 c4 : Value) (A : Option Addr) (n c : Nat) (s : PS) (h : RdP B w gr c1 (.slice A n c) c3 c4 s) (hr : RowT 56 (BdC 130) 2 w B (.slice A n c) n s.L.bodies) (hn : n ≤ 100000) (only : Int) : Calls Tryz.prog 92 #[.pointer (some ⟨gr, 0, none⟩), .int .i64 only] w (RetR B w gr c1 (.slice A n c) c3 c4 (.int .i64 (s.named only).1) (s.named only).2) := by
 have HP := Lib.hid h
 have HR := Lib.hid hr
 obtain ⟨W, hW⟩ : ∃ W, s.named only = W := ⟨_, rfl⟩
 rw [hW]
 have HW := Lib.hid hW
 clear h hr hW
 go_enter Tryz.func92, Tryz.ntmps92
 go_wp2_with fail
 (with_reducible refine (rd_word B _ gr c1 (.slice A n c) c3 c4 s HP.out).mono ?_); rintro e w1 ⟨rfl, h1, hg1⟩
 have HB := Lib.hid (HP.out.bodies HR.out hg1)
 have hLs := (word_stp s).2.2.2
 have hW := HW.out
 unfold PS.named at hW
 simp only at hW
 rw [hLs] at hW
 generalize s.word.2 = s' at h1 hW
 generalize s.word.1 = nm at hW ⊢
 have H1 := Lib.hid h1
 obtain ⟨D, m, d, hb, _⟩ := h1.blk
 obtain ⟨_, _, a2, _, _, a5⟩ := hb.c6
 have hgl := hb.lt
 clear hb h1 HW HP HR hLs
 by_cases hx : s'.x = 0
 ·rw [if_neg (by simp [hx])] at hW
  rw [hx, errV_0] at a5
  have HX := Lib.hid hx
  have HW := Lib.hid hW
  clear hx hW
  go_wp2_with fail
  clear a2 a5
  go_loopw [21] (fun iv wr => ∃ i : Nat, iv = .int .i64 (i : Nat) ∧ i ≤ n ∧ Hid (∀ a ∈ s.L.bodies.take i, a.name ≠ nm) ∧ Below w1.heap.size w1 wr) (fun iv _ => n - (intOf iv).toNat)
  case atStart => exact ⟨0, rfl, Nat.zero_le _, Lib.hid (by simp), brefl w1⟩
  case round =>
   obtain ⟨i, rfl, hi, HT, hb⟩ := hrel
   rename World => wr
   rcases Nat.lt_or_ge i n with hlt | hge
   ·have hi1 : ((i : Int) < (n : Int)) = True := by simp; omega
    obtain ⟨g, o, b, e, hg, _, hbi, hB⟩ := (HB.out.bds.bd hb).at_ hlt
    subst e
    obtain ⟨A', n', c', d0, d1, hM, hnm⟩ := hB
    clear hM hnm
    have htl := toList_v b.name
    have htn := toList_v nm
    have HBI := Lib.hid hbi
    clear hbi
    by_cases heq : b.name = nm
    ·have hf : findB s.L.bodies nm = some i := idx_hit (f := BodyL.name) HT.out HBI.out heq
     have hW := HW.out
     rw [hf] at hW
     simp only at hW
     rw [heq] at d0 htl
     have hee : (nm == nm) = true := by simp
     have r1 := H1.out.belw hb
     have g1 := rg_below hg1 hb
     have R1 := Lib.hid r1
     clear HBI heq hf r1
     by_cases ho : 0 ≤ only
     ·have ho1 : (0 ≤ only) = True := eq_true ho
      by_cases hio : (i : Int) = only
      ·rw [if_neg (by simp [hio])] at hW
       subst hW
       have hio1 : ((i : Int) == only) = true := by simp [hio]
       clear hio
       go_wp2_with fail
       go_ret
       exact ⟨rfl, R1.out.alloc _, rg_alloc g1 _⟩
      ·rw [if_pos ⟨ho, hio⟩, show s'.fail 7 = { s' with x := 7 } from if_pos HX.out] at hW
       subst hW
       have hio1 : ((i : Int) == only) = false := beq_eq_false_iff_ne.2 hio
       clear hio
       obtain ⟨D2, m2, d2, hbr, htr⟩ := R1.out.blk
       have HBr := Lib.hid (hbr.alloc (.cells #[strV nm, .slice A' n' c'] 56))
       have HTr := Lib.hid htr
       clear hbr htr
       go_wp2_with fail
       (with_reducible refine (rd_fail _ gr (.slice D2 m2 d2) c1 (.slice (some ⟨g, o, none⟩) n c) c3 c4 s'.x 7 HBr.out (by decide)).mono ?_); rintro e w2 ⟨rfl, hb2, hg2⟩
       have g2 := rg_trans (rg_alloc (rg_refl gr wr) _) hg2
       rw [if_pos HX.out] at hb2
       have R2 : RdP B w2 gr c1 (.slice (some ⟨g, o, none⟩) n c) c3 c4 { s' with x := 7 } := ⟨⟨D2, m2, d2, hb2, HTr.out.rg R1.out.hB g2⟩, R1.out.mx.rg R1.out.hB g2, R1.out.hB, R1.out.len, R1.out.txt, R1.out.hw⟩
       clear hb2
       go_wp2_with fail
       go_ret
       exact ⟨rfl, R2, rg_trans g1 g2⟩
     ·have ho1 : (0 ≤ only) = False := eq_false ho
      rw [if_neg (by omega)] at hW
      subst hW
      go_wp2_with fail
      go_ret
      exact ⟨rfl, R1.out.alloc _, rg_alloc g1 _⟩
    ·have hee : (b.name == nm) = false := beq_eq_false_iff_ne.2 heq
     have HT2 := Lib.hid (take_step (p := fun a : BodyL => a.name ≠ nm) HT.out HBI.out heq)
     clear heq HT HBI
     go_wp2_with fail
     go_roundw
     case rel => exact ⟨i + 1, by go_num, by omega, HT2, hb.alloc hb.size _⟩
     case measure => simp [intOf]; omega
   ·have hi1 : ((i : Int) < (n : Int)) = False := by simp; omega
    obtain rfl : i = n := by omega
    have hl : s.L.bodies.length = i := HB.out.1
    have hf : findB s.L.bodies nm = none := idx_none (f := BodyL.name) fun a ha => HT.out a (by rw [List.take_of_length_le (by omega)]; exact ha)
    have hW := HW.out
    rw [hf] at hW
    simp only at hW
    have e2 : s'.fail 5 = { s' with x := 5 } := if_pos HX.out
    rw [e2] at hW
    subst hW
    have r1 := H1.out.belw hb
    have g1 := rg_below hg1 hb
    have R1 := Lib.hid r1
    obtain ⟨D2, m2, d2, hbr, htr⟩ := r1.blk
    have HBr := Lib.hid hbr
    have HTr := Lib.hid htr
    clear hbr htr r1 hf hl HT
    go_wp2_with fail
    (with_reducible refine (rd_fail _ gr (.slice D2 m2 d2) c1 (.slice A i c) c3 c4 s'.x 5 HBr.out (by decide)).mono ?_); rintro e w2 ⟨rfl, hb2, g2⟩
    rw [if_pos HX.out] at hb2
    have R2 : RdP B w2 gr c1 (.slice A i c) c3 c4 { s' with x := 5 } := ⟨⟨D2, m2, d2, hb2, HTr.out.rg R1.out.hB g2⟩, R1.out.mx.rg R1.out.hB g2, R1.out.hB, R1.out.len, R1.out.txt, R1.out.hw⟩
    clear hb2
    go_wp2_with fail
    go_ret
    exact ⟨rfl, R2, rg_trans g1 g2⟩
 ·rw [if_pos (by simpa using hx)] at hW
  subst hW
  rw [eVp hx] at a5
  clear hx
  go_wp2_with fail
  go_ret
  exact ⟨rfl, H1.out, hg1⟩
theorem RdP.body_at {k n c i : Nat} {w : World} {A : Option Addr} {l : List BodyL} (h : SlS (BdAt k) 2 w A n c l) (hi : i < n) : ∃ g o b A' n' c', A = some ⟨g, o, none⟩ ∧ l[i]? = some b ∧ w.cell? ⟨g, o + i * 2 + 1, none⟩ = some (.slice A' n' c') ∧ SlS (MkAt k) 7 w A' n' c' b.pts := by
  obtain ⟨g, o, b, e, hg, _, hbi, A', n', c', d0, d1, hM, _⟩ := h.at_ hi
  exact ⟨g, o, b, A', n', c', e, hbi, d1, hM⟩
theorem rd_full (B : Nat) (w : World) (gr : Nat) (c1 c3 c4 : Value) (A : Option Addr) (n c : Nat) (s : PS) (h : RdP B w gr c1 (.slice A n c) c3 c4 s) (hr : RowT 56 (BdC 130) 2 w B (.slice A n c) n s.L.bodies) (hn : n ≤ 100000) (hpt : ∀ b ∈ s.L.bodies, b.pts.length ≤ 100000) (only : Int) : Calls Tryz.prog 91 #[.pointer (some ⟨gr, 0, none⟩), .int .i64 only] w (RetR B w gr c1 (.slice A n c) c3 c4 (.tuple #[.int .i64 (s.full only).1, .int .i64 (s.full only).2.1]) (s.full only).2.2) := by
 have HP := Lib.hid h
 have HR := Lib.hid hr
 have HPT := Lib.hid hpt
 obtain ⟨W, hW⟩ : ∃ W, s.full only = W := ⟨_, rfl⟩
 rw [hW]
 have HW := Lib.hid hW
 clear h hr hW hpt
 go_enter Tryz.func91, Tryz.ntmps91
 go_wp2_with fail
 (with_reducible refine (rd_named B _ gr c1 c3 c4 A n c s HP.out HR.out hn only).mono ?_); rintro e w1 ⟨rfl, h1, hg1⟩
 have H1 := Lib.hid h1
 clear h1
 go_wp2_with fail
 (with_reducible refine (rd_sign B _ gr c1 (.slice A n c) c3 c4 (s.named only).2 H1.out [46]).mono ?_); rintro e w2 ⟨rfl, h2, hg2⟩
 have H2 := Lib.hid h2
 clear h2
 go_wp2_with fail
 (with_reducible refine (rd_word B _ gr c1 (.slice A n c) c3 c4 ((s.named only).2.expect 2 [46]) H2.out).mono ?_); rintro e w3 ⟨rfl, h3, hg3⟩
 have G3 := rg_trans (rg_trans hg1 hg2) hg3
 have HB := Lib.hid (HP.out.bodies HR.out G3)
 have hst := (expect_stp (s.named only).2 2 [46]).trans (word_stp ((s.named only).2.expect 2 [46]))
 have hLs := ((named_stp s only).trans hst).2.2.2
 have hin := named_in s only
 have hW := HW.out
 unfold PS.full at hW
 simp only at hW
 rw [hLs] at hW
 have hxs : ((s.named only).2.expect 2 [46]).word.2.x = 0 → (s.named only).2.x = 0 := fun hx => (hst.2.2.1 hx).1
 clear hst hLs HW H1 H2 hg1 hg2 hg3 HP HR
 generalize ((s.named only).2.expect 2 [46]).word.2 = s' at h3 hW hxs
 generalize ((s.named only).2.expect 2 [46]).word.1 = nm at hW ⊢
 generalize (s.named only).1 = b at hW hin ⊢
 have H3 := Lib.hid h3
 obtain ⟨D, m, d, hb, _⟩ := h3.blk
 obtain ⟨_, _, a2, _, _, a5⟩ := hb.c6
 have hgl := hb.lt
 clear hb h3
 by_cases hx : s'.x = 0
 ·rw [if_neg (by simp [hx])] at hW
  rw [hx, errV_0] at a5
  obtain ⟨ib, eb, hib⟩ := hin (hxs hx)
  subst eb
  have HX := Lib.hid hx
  have hl : s.L.bodies.length = n := HB.out.1
  obtain ⟨g, o, bd, A', n', c', e, hbi, d1, hM⟩ := RdP.body_at HB.out.bds (show ib < n by omega)
  subst e
  have hp : ptsAt s.L (ib : Int) = bd.pts := by
   unfold ptsAt
   rw [Int.toNat_natCast, hbi]
  rw [hp] at hW
  have hi1 : ((ib : Int) < (n : Int)) = True := by simp; omega
  have hi2 : (0 : Int) ≤ (ib : Int) := by omega
  have hn' : n' ≤ 100000 := by rw [← hM.1]; exact HPT.out bd (List.mem_of_getElem? hbi)
  have HW := Lib.hid hW
  have HM := Lib.hid hM
  clear hx hW hp hbi hM hxs hin hl
  go_wp2_with fail
  clear a2 a5 d1
  go_loopw [32] (fun iv wr => ∃ i : Nat, iv = .int .i64 (i : Nat) ∧ i ≤ n' ∧ Hid (∀ a ∈ bd.pts.take i, a.name ≠ nm) ∧ Below w3.heap.size w3 wr) (fun iv _ => n' - (intOf iv).toNat)
  case atStart => exact ⟨0, rfl, Nat.zero_le _, Lib.hid (by simp), brefl w3⟩
  case round =>
   obtain ⟨i, rfl, hi, HT, hb⟩ := hrel
   rename World => wr
   rcases Nat.lt_or_ge i n' with hlt | hge
   ·have hj1 : ((i : Int) < (n' : Int)) = True := by simp; omega
    obtain ⟨g2, o2, p, e, hg, _, hpi, hP⟩ := (HM.out.mk_ hb).at_ hlt
    subst e
    obtain ⟨d0, ⟨bx, Ax, nx, cx, Dx, mx, ex, d1, d2, d3, _⟩, ⟨by_, Ay, ny, cy, Dy, my, ey, d4, d5, d6, _⟩, _⟩ := hP
    have htl := toList_v p.name
    have htn := toList_v nm
    have HPI := Lib.hid hpi
    clear hpi
    by_cases heq : p.name = nm
    ·have hf : findM bd.pts nm = some i := idx_hit (f := MarkL.name) HT.out HPI.out heq
     have hW := HW.out
     rw [hf] at hW
     simp only at hW
     subst hW
     rw [heq] at d0 htl
     have hee : (nm == nm) = true := by simp
     have g1 := rg_below G3 hb
     have R1 := Lib.hid (H3.out.belw hb)
     clear HPI heq hf
     go_wp2_with fail
     refine bodyPost_ret (v := .tuple #[.int .i64 (ib : Nat), .int .i64 (i : Nat)]) (by simp [results, Tryz.results91, go_sem, *] <;> first | rfl | exact ⟨rfl, rfl⟩) rfl ?_
     exact ⟨rfl, R1.out.alloc _, rg_alloc g1 _⟩
    ·have hee : (p.name == nm) = false := beq_eq_false_iff_ne.2 heq
     have HT2 := Lib.hid (take_step (p := fun a : MarkL => a.name ≠ nm) HT.out HPI.out heq)
     clear heq HT HPI
     go_wp2_with fail
     go_roundw
     case rel => exact ⟨i + 1, by go_num, by omega, HT2, hb.alloc hb.size _⟩
     case measure => simp [intOf]; omega
   ·have hj1 : ((i : Int) < (n' : Int)) = False := by simp; omega
    obtain rfl : i = n' := by omega
    have hl : bd.pts.length = i := HM.out.1
    have hf : findM bd.pts nm = none := idx_none (f := MarkL.name) fun a ha => HT.out a (by rw [List.take_of_length_le (by omega)]; exact ha)
    have hW := HW.out
    rw [hf] at hW
    simp only at hW
    have e2 : s'.fail 5 = { s' with x := 5 } := if_pos HX.out
    rw [e2] at hW
    subst hW
    have r1 := H3.out.belw hb
    have g1 := rg_below G3 hb
    have R1 := Lib.hid r1
    obtain ⟨D2, m2, d2, hbr, htr⟩ := r1.blk
    have HBr := Lib.hid hbr
    have HTr := Lib.hid htr
    clear hbr htr r1 hf hl HT
    go_wp2_with fail
    (with_reducible refine (rd_fail _ gr (.slice D2 m2 d2) c1 (.slice (some ⟨g, o, none⟩) n c) c3 c4 s'.x 5 HBr.out (by decide)).mono ?_); rintro e w5 ⟨rfl, hb2, g2⟩
    rw [if_pos HX.out] at hb2
    have R2 : RdP B w5 gr c1 (.slice (some ⟨g, o, none⟩) n c) c3 c4 { s' with x := 5 } := ⟨⟨D2, m2, d2, hb2, HTr.out.rg R1.out.hB g2⟩, R1.out.mx.rg R1.out.hB g2, R1.out.hB, R1.out.len, R1.out.txt, R1.out.hw⟩
    clear hb2
    go_wp2_with fail
    refine bodyPost_ret (v := .tuple #[.int .i64 0, .int .i64 0]) (by simp [results, Tryz.results91, go_sem, *] <;> first | rfl | exact ⟨rfl, rfl⟩) rfl ?_
    exact ⟨rfl, R2, rg_trans g1 g2⟩
 ·rw [if_pos (by simpa using hx)] at hW
  subst hW
  rw [eVp hx] at a5
  clear hx
  go_wp2_with fail
  refine bodyPost_ret (v := .tuple #[.int .i64 0, .int .i64 0]) (by simp [results, Tryz.results91, go_sem, *] <;> first | rfl | exact ⟨rfl, rfl⟩) rfl ?_
  exact ⟨rfl, H3.out, G3⟩
end Go.Proofs.YtoiijifnfdgfpaaGreatDoor

/- A region that draws its order and stores to nothing ahead of its last operation: what was there stays, what each operation yields stays true of a world that has grown. -/
namespace Go.Proofs.YtoiijifnfdgfpaaGreatDoor
open Go Go.RowKit Bn
section
variable {P : Program} {ops : Array Oper} {Q : Exit → Act → World → Prop} {fr : (Nat → Value) → Act} {R : Nat → Value → World → Prop} {id : Nat} {w : World} {x0 : Nat → Value}
theorem linG_hcl {L : Array Bool} {i : Nat} {o : Oper} (hlt : i < L.size) (ho : ops[i]? = some o) (hall : ∀ e ∈ o.after, Region.binds .any e = true → L.getD e.on false = true)
    (hcl : ∀ i o, ops[i]? = some o → L.getD i false = true → ∀ e ∈ o.after, Region.binds .any e = true → L.getD e.on false = true) :
    ∀ i' o', ops[i']? = some o' → (L.setIfInBounds i true).getD i' false = true → ∀ e ∈ o'.after, Region.binds .any e = true → (L.setIfInBounds i true).getD e.on false = true := by
  intro i' o' ho' hl e he hbd
  rw [getD_set hlt] at hl ⊢
  by_cases h : i' = i
  · subst h; rw [ho] at ho'; injection ho' with ho'; subst ho'
    rw [hall e he hbd]; simp
  · have : L.getD i' false = true := by simpa [h] using hl
    rw [hcl i' o' ho' this e he hbd]; simp
def reachB (l : List Oper) (n : Nat) : Bool := (List.range n).all fun j => (List.range (n + 1)).any fun k => decide (j < k) && match l[k]? with | some o => o.after.any (fun e => Region.binds .any e && e.on == j) | none => false
theorem reach_of {l : List Oper} {n j : Nat} (h : reachB l n = true) (hj : j < n) : ∃ k o, j < k ∧ k ≤ n ∧ (l.toArray)[k]? = some o ∧ ∃ e ∈ o.after, Region.binds .any e = true ∧ e.on = j := by
  unfold reachB at h
  rw [List.all_eq_true] at h
  have h1 := h j (List.mem_range.2 hj)
  rw [List.any_eq_true] at h1
  obtain ⟨k, hk, h2⟩ := h1
  rw [Bool.and_eq_true, decide_eq_true_eq] at h2
  obtain ⟨hjk, h2⟩ := h2
  cases hl : l[k]? with
  | none => rw [hl] at h2; cases h2
  | some o =>
    rw [hl] at h2
    obtain ⟨e, he, h3⟩ := Array.any_eq_true'.1 h2
    rw [Bool.and_eq_true] at h3
    exact ⟨k, o, hjk, by have := List.mem_range.1 hk; omega, by simpa using hl, e, he, h3.1, by simpa using h3.2⟩
end
def Grw (p : Value → World → Prop) : Prop := ∀ v w w', p v w → Below w.heap.size w w' → p v w'
def AllGrw : List (Value → World → Prop) → Prop
  | [] => True
  | p :: l => Grw p ∧ AllGrw l
theorem AllGrw.get : ∀ (l : List (Value → World → Prop)), AllGrw l → ∀ i v w w', l.getD i (fun _ _ => True) v w → Below w.heap.size w w' → l.getD i (fun _ _ => True) v w' := by
  intro l
  induction l with
  | nil => intro _ i v w w' _ _; simp
  | cons p l ih =>
    intro h i v w w' hp hk
    cases i with
    | zero => exact h.1 v w w' hp hk
    | succ i => exact ih h.2 i v w w' hp hk
end Go.Proofs.YtoiijifnfdgfpaaGreatDoor

/- A region that draws its order and changes the world in stages, one behind the other, its last operation being the one that all others precede. -/
namespace Go.Proofs.YtoiijifnfdgfpaaGreatDoor
open Go Go.RowKit Bn
def LinT (ops : Array Oper) (fr : (Nat → Value) → Act) (R : Nat → Value → Prop) (T : Nat → (Nat → Value) → World → Prop) (st : Nat → Option Nat) (K : Nat) (L : Array Bool) (a : Act) (w : World) : Prop :=
  ∃ x k, a = fr x ∧ k ≤ K ∧ T k x w ∧ (∀ i j, st i = some j → (L.getD i false = true ↔ j < k)) ∧ (∀ i, L.getD i false = true → R i (x i)) ∧
  (∀ i o, ops[i]? = some o → L.getD i false = true → ∀ e ∈ o.after, Region.binds .any e = true → L.getD e.on false = true)
section
variable (P : Program) (ops : Array Oper) (Q : Exit → Act → World → Prop) (fr : (Nat → Value) → Act) (R : Nat → Value → Prop) (T : Nat → (Nat → Value) → World → Prop)
def PureStep (i : Nat) (o : Oper) : Prop :=
  ∀ k x wq, T k x wq → (∀ e ∈ o.after, Region.binds .any e = true → R e.on (x e.on)) → ∀ K' : Act → World → Prop, Shut (∀ v, R i v → K' ((fr x).put o.dst v) wq) →
      if Region.wanted o (yielded ops (fr x).tmps) = true then Oper.wp P o (fr x) wq K' Q else K' ((fr x).put o.dst undef) wq
def StageStep (k : Nat) (i : Nat) (o : Oper) : Prop :=
  ∀ x wq, T k x wq → (∀ e ∈ o.after, Region.binds .any e = true → R e.on (x e.on)) → ∀ K' : Act → World → Prop, Shut (∀ v w', R i v → T (k + 1) (upd x i v) w' → K' ((fr x).put o.dst v) w') →
      if Region.wanted o (yielded ops (fr x).tmps) = true then Oper.wp P o (fr x) wq K' Q else K' ((fr x).put o.dst undef) wq
end
section
variable {P : Program} {ops : Array Oper} {Q : Exit → Act → World → Prop} {fr : (Nat → Value) → Act} {R : Nat → Value → Prop} {T : Nat → (Nat → Value) → World → Prop} {st : Nat → Option Nat} {K : Nat} {id : Nat} {w : World} {x0 : Nat → Value}
theorem wp_region_stage {n : Nat} (hm : P.follows .mixedOrders = true) (hn : ops.size = n + 1)
    (hput : ∀ i o, ops[i]? = some o → i < n → ∀ x v, (fr x).put o.dst v = fr (upd x i v))
    (hac : ∀ i o, ops[i]? = some o → ∀ e ∈ o.after, Region.binds .any e = true → e.on < i)
    (hreach : ∀ j, j < n → ∃ k o, j < k ∧ k ≤ n ∧ ops[k]? = some o ∧ ∃ e ∈ o.after, Region.binds .any e = true ∧ e.on = j)
    (hst : ∀ i j, st i = some j → i < n ∧ j < K)
    (hinj : ∀ i i' j, st i = some j → st i' = some j → i = i')
    (hall : ∀ j, j < K → ∃ i, st i = some j)
    (hchain : ∀ i o j, ops[i]? = some o → st i = some (j + 1) → ∃ e ∈ o.after, Region.binds .any e = true ∧ st e.on = some j)
    (hT : ∀ k x i v w, st i = none → T k x w → T k (upd x i v) w)
    (h0 : T 0 x0 w.drew)
    (hpure : ∀ i o, ops[i]? = some o → i < n → st i = none → PureStep P ops Q fr R T i o)
    (hstage : ∀ i o k, ops[i]? = some o → st i = some k → StageStep P ops Q fr R T k i o)
    (hlast : ∀ o, ops[n]? = some o → ∀ x wq, T K x wq → (∀ j, j < n → R j (x j)) → ∀ K' : Act → World → Prop, Shut (∀ a' w', Q .normal a' w' → K' a' w') →
      if Region.wanted o (yielded ops (fr x).tmps) = true then Oper.wp P o (fr x) wq K' Q else K' ((fr x).put o.dst undef) wq) :
    (Code.region id ops true).wp P Q (fr x0) w := by
  refine wp_region_any hm (wpAny_inv (fun L a w' => (L.getD n false = false ∧ LinT ops fr R T st K L a w') ∨ ((∀ i, i < ops.size → L.getD i false = true) ∧ Q .normal a w')) ?_ ?_ _ _ _ _ (by simp) ?_ ?_)
  · rintro L a w1 i hs hi hcase
    obtain ⟨hun, o, ho, hall'⟩ := mem_ready.1 hi
    have hlt : i < L.size := by
      rcases Nat.lt_or_ge i L.size with h | h
      · exact h
      · rw [Array.getD_eq_getD_getElem?, Array.getElem?_eq_none h] at hun; cases hun
    have hunf : L.getD i false = false := by
      rw [Array.getD_eq_getD_getElem?, Array.getElem?_eq_getElem hlt] at hun ⊢; exact hun
    rcases hcase with ⟨hLn, x, k, rfl, hkK, hTk, hLk, hr, hcl⟩ | ⟨hdone, _⟩
    · have hdep : ∀ e ∈ o.after, Region.binds .any e = true → R e.on (x e.on) := fun e he hbd => hr _ (hall' e he hbd)
      refine wpOp_step ho fun K' hK => ?_
      rcases Nat.lt_or_ge i n with hin | hin
      · have hLn' : (L.setIfInBounds i true).getD n false = false := by
          rw [getD_set hlt, hLn]; simp; omega
        have hr' : ∀ v, R i v → ∀ j, (L.setIfInBounds i true).getD j false = true → R j (upd x i v j) := by
          intro v hv j hj
          by_cases h : j = i
          · subst h; rw [upd_same]; exact hv
          · rw [upd_ne _ _ h]; rw [getD_set hlt] at hj; exact hr j (by simpa [h] using hj)
        cases hsi : st i with
        | none =>
          refine hpure i o ho hin hsi k x w1 hTk hdep K' (fun v hRv => hK _ _ (Or.inl ⟨hLn', upd x i v, k, hput i o ho hin x v, hkK, hT _ _ _ _ _ hsi hTk, fun i' j hj => ?_, hr' v hRv, linG_hcl hlt ho hall' hcl⟩))
          have hne : i' ≠ i := by rintro rfl; rw [hsi] at hj; cases hj
          rw [getD_set hlt, ← hLk i' j hj]
          simp [hne]
        | some j0 =>
          have hk : k = j0 := by
            have h1 : ¬ j0 < k := fun h => by
              have := (hLk i j0 hsi).2 h
              rw [hunf] at this; cases this
            cases j0 with
            | zero => omega
            | succ j =>
              obtain ⟨e, he, hbd, hse⟩ := hchain i o j ho hsi
              have := (hLk e.on j hse).1 (hall' e he hbd)
              omega
          subst hk
          refine hstage i o k ho hsi x w1 hTk hdep K' (fun v w' hRv hTv => hK _ _ (Or.inl ⟨hLn', upd x i v, k + 1, hput i o ho hin x v, (hst i k hsi).2, hTv, fun i' j hj => ?_, hr' v hRv, linG_hcl hlt ho hall' hcl⟩))
          rw [getD_set hlt]
          by_cases h : i' = i
          · subst h
            rw [hsi] at hj
            injection hj with hj
            subst hj
            simp
          · have hjk : j ≠ k := fun e => h (hinj _ _ _ hj (by rw [e]; exact hsi))
            rw [show (decide (i' = i) || L.getD i' false) = L.getD i' false by simp [h], hLk i' j hj]
            omega
      · have e : i = n := by omega
        subst e
        have hallj : ∀ m j, j < i → i - j ≤ m → L.getD j false = true := by
          intro m
          induction m with
          | zero => intro j hj hm; omega
          | succ m ih =>
            intro j hj hm
            obtain ⟨k, o', hjk, hk, ho', e, he, hbd, hea⟩ := hreach j hj
            rcases Nat.lt_or_ge k i with h | h
            · rw [← hea]; exact hcl k o' ho' (ih k h (by omega)) e he hbd
            · have e2 : k = i := by omega
              subst e2
              rw [ho] at ho'
              injection ho' with ho'
              subst ho'
              rw [← hea]; exact hall' e he hbd
        have hkk : k = K := by
          rcases Nat.lt_or_ge k K with h | h
          · obtain ⟨i', hi'⟩ := hall k h
            have := (hLk i' k hi').1 (hallj (i - i') i' (hst i' k hi').1 (Nat.le_refl _))
            omega
          · omega
        subst hkk
        refine hlast o ho x w1 hTk (fun j hj => hr j (hallj (i - j) j hj (Nat.le_refl _))) K' (fun a' w' hq => hK _ _ (Or.inr ⟨fun j hj => ?_, hq⟩))
        rw [getD_set hlt]
        by_cases h : j = i
        · simp [h]
        · rw [hallj (i - j) j (by omega) (Nat.le_refl _)]; simp
    · have := hdone i (by omega)
      rw [hunf] at this; cases this
  · rintro L a w1 hs hr0 (⟨hLn, x, k, rfl, hkK, hTk, hLk, hr, hcl⟩ | ⟨_, hq⟩)
    · have hallL : ∀ i, i < ops.size → L.getD i false = true := by
        intro i
        induction i using Nat.strongRecOn with
        | ind i ih =>
          intro hi
          cases h : L.getD i false
          · exfalso
            have : i ∈ Region.ready .any ops L := by
              refine mem_ready.2 ⟨?_, ops[i], Array.getElem?_eq_getElem hi, fun e he hbd => ?_⟩
              · rw [Array.getD_eq_getD_getElem?, Array.getElem?_eq_getElem (by omega)] at h ⊢; exact h
              · have h1 := hac i _ (Array.getElem?_eq_getElem hi) e he hbd
                exact ih e.on h1 (by omega)
            rw [hr0] at this; cases this
          · rfl
      have := hallL n (by omega)
      rw [hLn] at this; cases this
    · exact hq
  · simp
  · have hz : ∀ j, (Array.replicate ops.size false).getD j false = false := by
      intro j; rw [Array.getD_eq_getD_getElem?, Array.getElem?_replicate]; split <;> rfl
    refine Or.inl ⟨hz n, x0, 0, rfl, Nat.zero_le _, h0, fun i j hj => ?_, fun i h => ?_, fun i o _ h => ?_⟩
    · rw [hz]; simp
    · rw [hz] at h; cases h
    · rw [hz] at h; cases h
end
def stg (a K i : Nat) : Option Nat := if a ≤ i ∧ i < a + K then some (i - a) else none
theorem stg_some {a K i j : Nat} (h : stg a K i = some j) : i = a + j ∧ j < K := by
  unfold stg at h
  split at h
  · injection h with h; omega
  · cases h
theorem stg_at {a K j : Nat} (h : j < K) : stg a K (a + j) = some j := by
  unfold stg
  rw [if_pos (by omega)]
  congr 1; omega
theorem stg_none {a K i : Nat} (h : stg a K i = none) : i < a ∨ a + K ≤ i := by
  unfold stg at h
  split at h
  · cases h
  · omega
section
variable {P : Program} {ops : Array Oper} {Q : Exit → Act → World → Prop} {fr : (Nat → Value) → Act} {R : Nat → Value → Prop} {T : Nat → (Nat → Value) → World → Prop} {K a : Nat} {id : Nat} {w : World} {x0 : Nat → Value}
theorem wp_region_stg {n : Nat} (hm : P.follows .mixedOrders = true) (hn : ops.size = n + 1)
    (hput : ∀ i o, ops[i]? = some o → i < n → ∀ x v, (fr x).put o.dst v = fr (upd x i v))
    (hac : ∀ i o, ops[i]? = some o → ∀ e ∈ o.after, Region.binds .any e = true → e.on < i)
    (hreach : ∀ j, j < n → ∃ k o, j < k ∧ k ≤ n ∧ ops[k]? = some o ∧ ∃ e ∈ o.after, Region.binds .any e = true ∧ e.on = j)
    (haK : a + K ≤ n)
    (hchain : ∀ j o, j + 1 < K → ops[a + (j + 1)]? = some o → ∃ e ∈ o.after, Region.binds .any e = true ∧ e.on = a + j)
    (hT : ∀ k x i v w, i < a ∨ a + K ≤ i → T k x w → T k (upd x i v) w)
    (h0 : T 0 x0 w.drew)
    (hpure : ∀ i o, ops[i]? = some o → i < n → i < a ∨ a + K ≤ i → PureStep P ops Q fr R T i o)
    (hstage : ∀ k o, k < K → ops[a + k]? = some o → StageStep P ops Q fr R T k (a + k) o)
    (hlast : ∀ o, ops[n]? = some o → ∀ x wq, T K x wq → (∀ j, j < n → R j (x j)) → ∀ K' : Act → World → Prop, Shut (∀ a' w', Q .normal a' w' → K' a' w') →
      if Region.wanted o (yielded ops (fr x).tmps) = true then Oper.wp P o (fr x) wq K' Q else K' ((fr x).put o.dst undef) wq) :
    (Code.region id ops true).wp P Q (fr x0) w :=
  wp_region_stage (R := R) (T := T) (st := stg a K) (K := K) hm hn hput hac hreach
    (fun i j h => by obtain ⟨h1, h2⟩ := stg_some h; omega)
    (fun i i' j h h' => by obtain ⟨h1, _⟩ := stg_some h; obtain ⟨h2, _⟩ := stg_some h'; omega)
    (fun j h => ⟨a + j, stg_at h⟩)
    (fun i o j ho h => by
      obtain ⟨rfl, h2⟩ := stg_some h
      obtain ⟨e, he, hb, hon⟩ := hchain j o h2 ho
      exact ⟨e, he, hb, by rw [hon]; exact stg_at (by omega)⟩)
    (fun k x i v w h => hT k x i v w (stg_none h)) h0
    (fun i o ho hi h => hpure i o ho hi (stg_none h))
    (fun i o k ho h => by obtain ⟨rfl, h2⟩ := stg_some h; exact hstage k o h2 ho) hlast
end
section
variable {P : Program} {ops : Array Oper} {Q : Exit → Act → World → Prop} {fr : (Nat → Value) → Act} {R : Nat → Value → Prop} {T : Nat → (Nat → Value) → World → Prop} {id : Nat} {w : World} {x0 : Nat → Value}
end
def VE (u : Value) : Value → Prop := fun v => v = u
def VA : Value → Prop := fun _ => True
end Go.Proofs.YtoiijifnfdgfpaaGreatDoor

/- Walks: the reader: item. -/
namespace Go.Proofs.YtoiijifnfdgfpaaGreatDoor
open Go Go.RowKit Bn
attribute [local go_sem ↓] Go.wp_at_zero Go.wp_at_succ
structure RdL (B : Nat) (w : World) (gr : Nat) (s : PS) (A : Option Addr) (n c : Nat) (A' : Option Addr) (n' c' : Nat) (A'' : Option Addr) (n'' c'' : Nat) : Prop where
  rd : RdP B w gr (strV s.L.name) (.slice A n c) (.slice A' n' c') (.slice A'' n'' c'') s
  bd : RowT 56 (BdC 130) 2 w B (.slice A n c) n s.L.bodies
  jt : RowT 60 JtC 7 w B (.slice A' n' c') n' s.L.joints
  dr : RowT 58 DrC 2 w B (.slice A'' n'' c'') n'' s.L.drivers
  nm : NmL s.L.name
  cnt : n + n' + n'' + s.toks.length ≤ 70000
  pts : ∀ b ∈ s.L.bodies, b.pts.length ≤ 70000
def RetL_ (B : Nat) (w : World) (gr : Nat) (s : PS) (e : Ending) (w' : World) : Prop := e = .returned (.tuple #[]) ∧ (∃ A n c A' n' c' A'' n'' c'', RdL B w' gr s A n c A' n' c' A'' n'' c'') ∧ Below B w w'
section
variable {B : Nat} {w w' : World} {gr : Nat} {c1 c2 c3 c4 : Value} {s : PS}
theorem RdP.other {T : TypeId → Bool} (h : RdP B w gr c1 c2 c3 c4 s) (ht : Tch T w w') (hT : T 100 = false) (hb : Below B w w') : RdP B w' gr c1 c2 c3 c4 s := by
  obtain ⟨A, n, c, h1, h2⟩ := h.blk
  exact ⟨⟨A, n, c, ht.2 gr _ _ _ h1 (.inl hT), h2.belB hb⟩, h.mx.belB hb, h.hB, h.len, h.txt, h.hw⟩
theorem RdP.put2 (h : RdP B w gr c1 c2 c3 c4 s) (v : Value) (hv : noW v = true) {s2 : PS} (e1 : s2.toks = s.toks) (e2 : s2.x = s.x) : RdP B (w.setCell ⟨gr, 2, none⟩ v) gr c1 v c3 c4 s2 := by
  obtain ⟨A, n, c, h1, h2⟩ := h.blk
  have hb : Below B w (w.setCell ⟨gr, 2, none⟩ v) := (Below.refl B w).setCell (p := ⟨gr, 2, none⟩) h.hB v
  exact ⟨⟨A, n, c, by rw [e2]; exact h1.s62 v, by rw [e1]; exact h2.belB hb⟩, h.mx.belB hb, h.hB, by rw [e1]; exact h.len, by rw [e1]; exact h.txt, h.hw.1, hv, h.hw.2.2⟩
theorem RdP.put3 (h : RdP B w gr c1 c2 c3 c4 s) (v : Value) (hv : noW v = true) {s2 : PS} (e1 : s2.toks = s.toks) (e2 : s2.x = s.x) : RdP B (w.setCell ⟨gr, 3, none⟩ v) gr c1 c2 v c4 s2 := by
  obtain ⟨A, n, c, h1, h2⟩ := h.blk
  have hb : Below B w (w.setCell ⟨gr, 3, none⟩ v) := (Below.refl B w).setCell (p := ⟨gr, 3, none⟩) h.hB v
  exact ⟨⟨A, n, c, by rw [e2]; exact h1.s63 v, by rw [e1]; exact h2.belB hb⟩, h.mx.belB hb, h.hB, by rw [e1]; exact h.len, by rw [e1]; exact h.txt, h.hw.1, h.hw.2.1, hv, h.hw.2.2.2⟩
theorem RdP.put4 (h : RdP B w gr c1 c2 c3 c4 s) (v : Value) (hv : noW v = true) {s2 : PS} (e1 : s2.toks = s.toks) (e2 : s2.x = s.x) : RdP B (w.setCell ⟨gr, 4, none⟩ v) gr c1 c2 c3 v s2 := by
  obtain ⟨A, n, c, h1, h2⟩ := h.blk
  have hb : Below B w (w.setCell ⟨gr, 4, none⟩ v) := (Below.refl B w).setCell (p := ⟨gr, 4, none⟩) h.hB v
  exact ⟨⟨A, n, c, by rw [e2]; exact h1.s64 v, by rw [e1]; exact h2.belB hb⟩, h.mx.belB hb, h.hB, by rw [e1]; exact h.len, by rw [e1]; exact h.txt, h.hw.1, h.hw.2.1, h.hw.2.2.1, hv⟩
theorem RdP.put1 (h : RdP B w gr c1 c2 c3 c4 s) (v : Value) (hv : noW v = true) {s2 : PS} (e1 : s2.toks = s.toks) (e2 : s2.x = s.x) : RdP B (w.setCell ⟨gr, 1, none⟩ v) gr v c2 c3 c4 s2 := by
  obtain ⟨A, n, c, h1, h2⟩ := h.blk
  have hb : Below B w (w.setCell ⟨gr, 1, none⟩ v) := (Below.refl B w).setCell (p := ⟨gr, 1, none⟩) h.hB v
  exact ⟨⟨A, n, c, by rw [e2]; exact h1.s61 v, by rw [e1]; exact h2.belB hb⟩, h.mx.belB hb, h.hB, by rw [e1]; exact h.len, by rw [e1]; exact h.txt, hv, h.hw.2⟩
theorem RdP.drew (h : RdP B w gr c1 c2 c3 c4 s) : RdP B w.drew gr c1 c2 c3 c4 s := ⟨h.blk, h.mx, h.hB, h.len, h.txt, h.hw⟩
theorem RdP.cells (h : RdP B w gr c1 c2 c3 c4 s) : w.cell? ⟨gr, 1, none⟩ = some c1 ∧ w.cell? ⟨gr, 2, none⟩ = some c2 ∧ w.cell? ⟨gr, 3, none⟩ = some c3 ∧ w.cell? ⟨gr, 4, none⟩ = some c4 ∧ w.frozen? ⟨gr, 1, none⟩ = false ∧ w.frozen? ⟨gr, 2, none⟩ = false ∧ w.frozen? ⟨gr, 3, none⟩ = false ∧ w.frozen? ⟨gr, 4, none⟩ = false := by
  obtain ⟨A, n, c, hb, _⟩ := h.blk
  obtain ⟨_, a1, a2, a3, a4, _⟩ := hb.c6
  exact ⟨a1, a2, a3, a4, hb.frozen 1, hb.frozen 2, hb.frozen 3, hb.frozen 4⟩
def TOne (t : TypeId) : TypeId → Bool := fun u => u == t
theorem RdP.tchR (h : RdP B w gr c1 c2 c3 c4 s) (k : w.grownBy w' (some gr)) : Tch (TOne 100) w w' := h.tch k (by simp [TOne])
end
theorem row_push {α : Type} {T0 : TypeId} {Pc : World → List Value → α → Prop} {sz B n : Nat} {w w5 : World} {v v5 : Value} {l : List α} {xs cs : List Value} {a : α} {o : Obj} (hl : l.length = n) (hown : OwJ noW w B T0 sz v n xs) (hrow : RowC Pc sz w l xs)
    (hm : Pc w cs a) (hcs : cs.length = sz) (hown5 : OwJ noW w5 B T0 sz v5 (n + 1) (xs ++ cs)) (hgrow : (w.alloc o).grownBy w5 v.ownBlock) (hB : B ≤ w.heap.size) (hPc : ∀ w' cs a, Tch (TOne T0) w w' → Pc w cs a → Pc w' cs a) :
    RowT T0 Pc sz w5 B v5 (n + 1) (l ++ [a]) ∧ Tch (TOne T0) w w5 ∧ Below B w w5 := by
  have hownA : OwJ noW (w.alloc o) B T0 sz v n xs := hown.belw ((Below.refl _ _).alloc (Nat.le_refl _) o)
  have ht : Tch (TOne T0) w w5 := (Tch.below ((Below.refl _ _).alloc (Nat.le_refl _) o)).trans (Tch.grown (fun _ hu => hu) (by simp [TOne]) hownA hgrow)
  exact ⟨⟨by simp [hl], xs ++ cs, hown5, (hrow.map_ fun cs a x => hPc _ _ _ ht x).snoc (hPc _ _ _ ht hm) hcs⟩, ht, ((Below.refl B w).alloc hB o).grown hgrow (by simp; omega) (fun k hk => (hown.at_ hk).1)⟩
def BdSt (B gr : Nat) (w : World) (c1 c2 c3 c4 : Value) (s : PS) (b : BodyL) (v : Value) (wq : World) : Prop :=
  ∃ A n c, v = .agg #[strV b.name, .slice A n c] ∧ MksT 130 wq A n c b.pts ∧ NmL b.name ∧ RdP B wq gr c1 c2 c3 c4 s ∧ w.grownBy wq (some gr)
def TB (B gr : Nat) (w : World) (c1 c2 c3 c4 : Value) (s : PS) (b : BodyL) (n : Nat) (l : List BodyL) : Nat → Value → Value → Value → World → Prop
  | 0, _, _, _, wq => wq = w.drew
  | 1, v7, _, _, wq => BdSt B gr w c1 c2 c3 c4 s b v7 wq
  | 2, _, v8, _, wq => ∃ w2 A n' c', BdSt B gr w c1 c2 c3 c4 s b (.agg #[strV b.name, .slice A n' c']) w2 ∧ v8 = .slice (some ⟨w2.heap.size, 0, none⟩) 1 1 ∧ wq = w2.alloc (.cells #[strV b.name, .slice A n' c'] 56)
  | 3, _, _, v9, wq => ∃ w2 v A5 c5, BdSt B gr w c1 c2 c3 c4 s b v w2 ∧ v9 = .slice A5 (n + 1) c5 ∧ RowT 56 (BdC 130) 2 wq B v9 (n + 1) (l ++ [b]) ∧ Tch (TOne 56) w2 wq ∧ Below B w2 wq
  | _, _, _, _, _ => False
theorem TB.rd {B gr : Nat} {w : World} {c1 c2 c3 c4 : Value} {s0 s : PS} {b : BodyL} {n : Nat} {l : List BodyL} (h0 : RdP B w gr c1 c2 c3 c4 s0) : ∀ {k : Nat} {v7 v8 v9 : Value} {wq : World}, TB B gr w c1 c2 c3 c4 s b n l k v7 v8 v9 wq → ∃ s', RdP B wq gr c1 c2 c3 c4 s'
  | 0, _, _, _, _, h => by
    have h : _ = _ := h
    rw [h]
    exact ⟨s0, ⟨h0.blk, h0.mx, h0.hB, h0.len, h0.txt, h0.hw⟩⟩
  | 1, _, _, _, _, ⟨_, _, _, _, _, _, h, _⟩ => ⟨s, h⟩
  | 2, _, _, _, _, ⟨w2, _, _, _, ⟨_, _, _, _, _, _, h, _⟩, _, e⟩ => ⟨s, by rw [e]; exact h.alloc _⟩
  | 3, _, _, _, _, ⟨w2, _, _, _, ⟨_, _, _, _, _, _, h, _⟩, _, _, ht, hb⟩ => ⟨s, h.other ht (by decide) hb⟩
  | _ + 4, _, _, _, _, h => False.elim h
def TJ_ {α : Type} (T0 : TypeId) (Pc : World → List Value → α → Prop) (sz : Nat) (B gj : Nat) (w : World) (cs : List Value) (a : α) (n : Nat) (l : List α) : Nat → Value → Value → World → Prop
  | 0, _, _, wq => wq = w.drew
  | 1, v7, _, wq => v7 = .slice (some ⟨w.heap.size, 0, none⟩) 1 1 ∧ wq = w.drew.alloc (.cells cs.toArray T0)
  | 2, _, v8, wq => ∃ A5 c5, v8 = .slice A5 (n + 1) c5 ∧ RowT T0 Pc sz wq B v8 (n + 1) (l ++ [a]) ∧ Blk wq gj T0 cs.toArray ∧ Tch (TOne T0) w wq ∧ Below B w wq
  | _, _, _, _ => False
theorem TJ_.rd {α : Type} {T0 : TypeId} {Pc : World → List Value → α → Prop} {sz B gj gr n : Nat} {w : World} {cs : List Value} {a : α} {l : List α} {c1 c2 c3 c4 : Value} {s : PS} (hT : TOne T0 100 = false) (h0 : RdP B w gr c1 c2 c3 c4 s) : ∀ {k : Nat} {v7 v8 : Value} {wq : World}, TJ_ T0 Pc sz B gj w cs a n l k v7 v8 wq → RdP B wq gr c1 c2 c3 c4 s
  | 0, _, _, _, h => by
    have h : _ = _ := h
    rw [h]
    exact ⟨h0.blk, h0.mx, h0.hB, h0.len, h0.txt, h0.hw⟩
  | 1, _, _, _, ⟨_, e⟩ => by
    rw [e]
    exact h0.drew.alloc _
  | 2, _, _, _, ⟨_, _, _, _, _, ht, hb⟩ => h0.other ht hT hb
  | _ + 3, _, _, _, h => False.elim h
theorem TJ_.blk {α : Type} {T0 : TypeId} {Pc : World → List Value → α → Prop} {sz B gj n : Nat} {w : World} {cs : List Value} {a : α} {l : List α} (hb : Blk w gj T0 cs.toArray) : ∀ {k : Nat} {v7 v8 : Value} {wq : World}, TJ_ T0 Pc sz B gj w cs a n l k v7 v8 wq → Blk wq gj T0 cs.toArray
  | 0, _, _, _, h => by
    have h : _ = _ := h
    rw [h]; exact hb.drew
  | 1, _, _, _, ⟨_, e⟩ => by rw [e]; exact hb.drew.alloc _
  | 2, _, _, _, ⟨_, _, _, _, h, _⟩ => h
  | _ + 3, _, _, _, h => False.elim h
abbrev fr4 (u0 u1 u2 u3 u4 u5 u6 u7 u8 u9 u10 u11 u12 u26 u27 u28 u29 u30 u31 u32 u33 u34 u35 u36 u37 u38 u39 u40 u41 u42 u43 u44 u45 u46 u47 u48 u49 u50 u51 u52 u53 u54 u55 u56 u57 u58 u59 u60 u61 u62 u63 u64 u65 u66 u67 u68 u69 u70 u71 u72 u73 u74 u75 u76 u77 u78 u79 u80 u81 u82 u83 u84 u85 u86 u87 u88 u89 u90 u91 u92 : Value) (xf : Nat → Value) : Act := ⟨List.toArray (u0 :: u1 :: u2 :: u3 :: u4 :: u5 :: u6 :: u7 :: u8 :: u9 :: u10 :: u11 :: u12 :: xf 0 :: xf 1 :: xf 2 :: xf 3 :: xf 4 :: xf 5 :: xf 6 :: xf 7 :: xf 8 :: xf 9 :: xf 10 :: xf 11 :: xf 12 :: u26 :: u27 :: u28 :: u29 :: u30 :: u31 :: u32 :: u33 :: u34 :: u35 :: u36 :: u37 :: u38 :: u39 :: u40 :: u41 :: u42 :: u43 :: u44 :: u45 :: u46 :: u47 :: u48 :: u49 :: u50 :: u51 :: u52 :: u53 :: u54 :: u55 :: u56 :: u57 :: u58 :: u59 :: u60 :: u61 :: u62 :: u63 :: u64 :: u65 :: u66 :: u67 :: u68 :: u69 :: u70 :: u71 :: u72 :: u73 :: u74 :: u75 :: u76 :: u77 :: u78 :: u79 :: u80 :: u81 :: u82 :: u83 :: u84 :: u85 :: u86 :: u87 :: u88 :: u89 :: u90 :: u91 :: u92 :: []), []⟩
abbrev fr14 (u0 u1 u2 u3 u4 u5 u6 u7 u8 u9 u10 u11 u12 u13 u14 u15 u16 u17 u18 u19 u20 u21 u22 u23 u24 u25 u26 u27 u28 u29 u30 u31 u32 u33 u34 u35 u36 u37 u38 u39 u40 u41 u42 u43 u44 u45 u46 u47 u48 u49 u50 u51 u52 u53 u54 u55 u56 u57 u58 u71 u72 u73 u74 u75 u76 u77 u78 u79 u80 u81 u82 u83 u84 u85 u86 u87 u88 u89 u90 u91 u92 : Value) (xf : Nat → Value) : Act := ⟨List.toArray (u0 :: u1 :: u2 :: u3 :: u4 :: u5 :: u6 :: u7 :: u8 :: u9 :: u10 :: u11 :: u12 :: u13 :: u14 :: u15 :: u16 :: u17 :: u18 :: u19 :: u20 :: u21 :: u22 :: u23 :: u24 :: u25 :: u26 :: u27 :: u28 :: u29 :: u30 :: u31 :: u32 :: u33 :: u34 :: u35 :: u36 :: u37 :: u38 :: u39 :: u40 :: u41 :: u42 :: u43 :: u44 :: u45 :: u46 :: u47 :: u48 :: u49 :: u50 :: u51 :: u52 :: u53 :: u54 :: u55 :: u56 :: u57 :: u58 :: xf 0 :: xf 1 :: xf 2 :: xf 3 :: xf 4 :: xf 5 :: xf 6 :: xf 7 :: xf 8 :: xf 9 :: xf 10 :: xf 11 :: u71 :: u72 :: u73 :: u74 :: u75 :: u76 :: u77 :: u78 :: u79 :: u80 :: u81 :: u82 :: u83 :: u84 :: u85 :: u86 :: u87 :: u88 :: u89 :: u90 :: u91 :: u92 :: []), []⟩
abbrev fr19 (u0 u1 u2 u3 u4 u5 u6 u7 u8 u9 u10 u11 u12 u13 u14 u15 u16 u17 u18 u19 u20 u21 u22 u23 u24 u25 u26 u27 u28 u29 u30 u31 u32 u33 u34 u35 u36 u37 u38 u39 u40 u41 u42 u43 u44 u45 u46 u47 u48 u49 u50 u51 u52 u53 u54 u55 u56 u57 u58 u59 u60 u61 u62 u63 u64 u65 u66 u67 u68 u69 u70 u71 u72 u73 u74 u75 u76 u77 u78 u79 u80 : Value) (xf : Nat → Value) : Act := ⟨List.toArray (u0 :: u1 :: u2 :: u3 :: u4 :: u5 :: u6 :: u7 :: u8 :: u9 :: u10 :: u11 :: u12 :: u13 :: u14 :: u15 :: u16 :: u17 :: u18 :: u19 :: u20 :: u21 :: u22 :: u23 :: u24 :: u25 :: u26 :: u27 :: u28 :: u29 :: u30 :: u31 :: u32 :: u33 :: u34 :: u35 :: u36 :: u37 :: u38 :: u39 :: u40 :: u41 :: u42 :: u43 :: u44 :: u45 :: u46 :: u47 :: u48 :: u49 :: u50 :: u51 :: u52 :: u53 :: u54 :: u55 :: u56 :: u57 :: u58 :: u59 :: u60 :: u61 :: u62 :: u63 :: u64 :: u65 :: u66 :: u67 :: u68 :: u69 :: u70 :: u71 :: u72 :: u73 :: u74 :: u75 :: u76 :: u77 :: u78 :: u79 :: u80 :: xf 0 :: xf 1 :: xf 2 :: xf 3 :: xf 4 :: xf 5 :: xf 6 :: xf 7 :: xf 8 :: xf 9 :: xf 10 :: xf 11 :: []), []⟩
theorem own_lt {α : Type} {T0 : TypeId} {Pc : World → List Value → α → Prop} {sz base n g : Nat} {w : World} {v : Value} {l : List α} (h : RowT T0 Pc sz w base v n l) (hg : w.heap.size ≤ g) : some g ≠ v.ownBlock := by
  intro e
  obtain ⟨_, xs, hown, _⟩ := h
  obtain ⟨_, cur, h2, _⟩ := hown.at_ e.symm
  have := lt_of_block h2
  omega
theorem bel_set2 {B g : Nat} (w : World) (hB : B ≤ g) (i j : Nat) (u0 u1 : Value) : Below B w ((w.setCell ⟨g, i, none⟩ u0).setCell ⟨g, j, none⟩ u1) :=
  ((Below.refl B w).setCell (p := ⟨g, i, none⟩) hB u0).setCell (p := ⟨g, j, none⟩) hB u1
theorem rd_item_body (B : Nat) (w : World) (gr : Nat) (s : PS) (A : Option Addr) (n c : Nat) (A' : Option Addr) (n' c' : Nat) (A'' : Option Addr) (n'' c'' : Nat) (h : RdL B w gr s A n c A' n' c' A'' n'' c'') (hw1 : s.word.1 = wBody) : Calls Tryz.prog 53 #[.pointer (some ⟨gr, 0, none⟩)] w (RetL_ B w gr s.item) := by
  have HW1 := Lib.hid hw1
  have hb0 : (s.word.1 == [98, 111, 100, 121]) = true := by rw [hw1]; decide
  clear hw1
  obtain ⟨i0, hi0, hz0, hz1, hz2⟩ := info_parts info_bd
  obtain ⟨ij, hj0, hj1, hj2, hj3⟩ := info_parts info_jt
  obtain ⟨id, hd0, hd1, hd2, hd3⟩ := info_parts info_dr
  have HI := Lib.hid (And.intro hi0 (And.intro hz0 (And.intro hz1 hz2)))
  have HIJ := Lib.hid (And.intro hj0 (And.intro hj1 (And.intro hj2 hj3)))
  have HID := Lib.hid (And.intro hd0 (And.intro hd1 (And.intro hd2 hd3)))
  clear hi0 hz0 hz1 hz2 hj0 hj1 hj2 hj3 hd0 hd1 hd2 hd3
  have HL1 := Lib.hid (word_stp s).2.2.2
  have HL2 := Lib.hid ((word_stp s).trans (word_stp s.word.2)).2.2.2
  have HP := Lib.hid h
  obtain ⟨W, hW⟩ : ∃ W, s.item = W := ⟨_, rfl⟩
  rw [hW]
  have HW := Lib.hid hW
  clear h hW
  go_enter Tryz.func53, Tryz.ntmps53
  go_wp2_with fail
  (with_reducible refine (rd_word B _ gr (strV s.L.name) (.slice A n c) (.slice A' n' c') (.slice A'' n'' c'') s HP.out.rd).mono ?_); rintro e w1 ⟨rfl, h1, hg1⟩
  have H1 := Lib.hid h1
  have hgl := h1.lt
  have BW1 := Lib.hid (rg_bel hg1 (B := B) (by have := HP.out.rd.lt; have := HP.out.rd.hB; omega) HP.out.rd.hB)
  have t0 := HP.out.rd.tchR hg1
  have BD1 := Lib.hid (HP.out.bd.tch t0 (by decide) (fun _ _ x => x.tch t0 (by decide)))
  have JT1 := Lib.hid (HP.out.jt.tch t0 (by decide) (fun _ _ x => x))
  have DR1 := Lib.hid (HP.out.dr.tch t0 (by decide) (fun _ _ x => x))
  obtain ⟨Ak, nk, ck, hbk, _⟩ := h1.blk
  have HBk := Lib.hid hbk
  clear h1 hg1 t0 hbk
  have hn := toList_v s.word.1
  go_wp2_with fail
  change Code.wp _ _ _ (fr4 _ _ _ _ _ _ _ _ _ _ _ _ _ _ _ _ _ _ _ _ _ _ _ _ _ _ _ _ _ _ _ _ _ _ _ _ _ _ _ _ _ _ _ _ _ _ _ _ _ _ _ _ _ _ _ _ _ _ _ _ _ _ _ _ _ _ _ _ _ _ _ _ _ _ _ _ _ _ _ _ (fun _ => undef)) _
  refine wp_region_stg (n := 13) (a := 7) (K := 3) (x0 := fun _ => undef) (R := fun ri => List.getD ((VE (.pointer (some ⟨gr, 0, none⟩))) :: (VE (.pointer (some ⟨gr, 0, none⟩))) :: (VE (.pointer (some ⟨gr, 0, none⟩))) :: (VE (.pointer (some ⟨gr, 1, none⟩))) :: (VE (.pointer (some ⟨gr, 2, none⟩))) :: (VE (.slice A n c)) :: (VE (.pointer (some ⟨gr, 0, none⟩))) :: VA :: VA :: VA :: (VE (.pointer (some ⟨gr, 0, none⟩))) :: (VE (.pointer (some ⟨gr, 1, none⟩))) :: (VE (.pointer (some ⟨gr, 2, none⟩))) :: []) ri VA) (T := fun k x wq => TB B gr w1 (strV s.L.name) (.slice A n c) (.slice A' n' c') (.slice A'' n'' c'') s.word.2.body.2 s.word.2.body.1 n s.L.bodies k (x 7) (x 8) (x 9) wq) (by kernel_rfl) rfl ?_ ?_ ?_ (by decide) ?_ ?_ rfl ?_ ?_ ?_
  · exact each_of ⟨(fun _ _ _ => rfl), (fun _ _ _ => rfl), (fun _ _ _ => rfl), (fun _ _ _ => rfl), (fun _ _ _ => rfl), (fun _ _ _ => rfl), (fun _ _ _ => rfl), (fun _ _ _ => rfl), (fun _ _ _ => rfl), (fun _ _ _ => rfl), (fun _ _ _ => rfl), (fun _ _ _ => rfl), (fun _ _ _ => rfl), (fun h => absurd h (by decide)), trivial⟩
  · exact each_of (acyc_from _ 0 (by kernel_rfl))
  · exact (fun j hj => reach_of (by kernel_rfl) hj)
  · intro j o hj ho
    obtain rfl | rfl : j = 0 ∨ j = 1 := by omega
    · injection ho with ho
      subst ho
      exact ⟨⟨7, .data⟩, by simp, rfl, rfl⟩
    · injection ho with ho
      subst ho
      exact ⟨⟨8, .data⟩, by simp, rfl, rfl⟩
  · intro k x i v w hi h
    have e7 : upd x i v 7 = x 7 := upd_ne _ _ (by omega)
    have e8 : upd x i v 8 = x 8 := upd_ne _ _ (by omega)
    have e9 : upd x i v 9 = x 9 := upd_ne _ _ (by omega)
    simp only [e7, e8, e9]
    exact h
  · refine each_of ⟨?_, ?_, ?_, ?_, ?_, ?_, ?_, (fun _ h => absurd h (by decide)), (fun _ h => absurd h (by decide)), (fun _ h => absurd h (by decide)), ?_, ?_, ?_, (fun h => absurd h (by decide)), trivial⟩
    · intro _ _ k xf wq hT hd K hK
      (try dsimp only [fr4])
      go_simp
      have hz := hK.out _ rfl
      exact hz
    · intro _ _ k xf wq hT hd K hK
      (try dsimp only [fr4])
      go_simp
      have hz := hK.out _ rfl
      exact hz
    · intro _ _ k xf wq hT hd K hK
      have dq1 : xf 1 = .pointer (some ⟨gr, 0, none⟩) := hd ⟨1, .data⟩ (by simp) rfl
      (try dsimp only [fr4]); (try simp only [dq1])
      go_simp
      have hz := hK.out _ rfl
      dsimp only [fr4] at hz
      simp only [dq1] at hz
      exact hz
    · intro _ _ k xf wq hT hd K hK
      have dq2 : xf 2 = .pointer (some ⟨gr, 0, none⟩) := hd ⟨2, .data⟩ (by simp) rfl
      (try dsimp only [fr4]); (try simp only [dq2])
      go_simp
      have hz := hK.out _ rfl
      dsimp only [fr4] at hz
      simp only [dq2] at hz
      exact hz
    · intro _ _ k xf wq hT hd K hK
      have dq3 : xf 3 = .pointer (some ⟨gr, 1, none⟩) := hd ⟨3, .data⟩ (by simp) rfl
      (try dsimp only [fr4]); (try simp only [dq3])
      go_simp
      have hz := hK.out _ rfl
      dsimp only [fr4] at hz
      simp only [dq3] at hz
      exact hz
    · intro _ _ k xf wq hT hd K hK
      have dq4 : xf 4 = .pointer (some ⟨gr, 2, none⟩) := hd ⟨4, .data⟩ (by simp) rfl
      obtain ⟨sz, hRz⟩ := TB.rd H1.out hT
      obtain ⟨_, hc2, _⟩ := hRz.cells
      (try dsimp only [fr4]); (try simp only [dq4])
      go_simp
      have hz := hK.out _ rfl
      dsimp only [fr4] at hz
      simp only [dq4] at hz
      exact hz
    · intro _ _ k xf wq hT hd K hK
      (try dsimp only [fr4])
      go_simp
      have hz := hK.out _ rfl
      exact hz
    · intro _ _ k xf wq hT hd K hK
      have dq0 : xf 0 = .pointer (some ⟨gr, 0, none⟩) := hd ⟨0, .data⟩ (by simp) rfl
      (try dsimp only [fr4]); (try simp only [dq0])
      go_simp
      have hz := hK.out _ rfl
      dsimp only [fr4] at hz
      simp only [dq0] at hz
      exact hz
    · intro _ _ k xf wq hT hd K hK
      have dq10 : xf 10 = .pointer (some ⟨gr, 0, none⟩) := hd ⟨10, .data⟩ (by simp) rfl
      (try dsimp only [fr4]); (try simp only [dq10])
      go_simp
      have hz := hK.out _ rfl
      dsimp only [fr4] at hz
      simp only [dq10] at hz
      exact hz
    · intro _ _ k xf wq hT hd K hK
      have dq11 : xf 11 = .pointer (some ⟨gr, 1, none⟩) := hd ⟨11, .data⟩ (by simp) rfl
      (try dsimp only [fr4]); (try simp only [dq11])
      go_simp
      have hz := hK.out _ rfl
      dsimp only [fr4] at hz
      simp only [dq11] at hz
      exact hz
  · intro k o hk ho
    obtain rfl | rfl | rfl := (show k = 0 ∨ k = 1 ∨ k = 2 by omega)
    · injection ho with ho
      subst ho
      intro xf wq hT hd K hK
      have dq6 : xf 6 = .pointer (some ⟨gr, 0, none⟩) := hd ⟨6, .data⟩ (by simp) rfl
      have hT : wq = w1.drew := hT
      subst hT
      (try dsimp only [fr4]); (try simp only [dq6])
      go_simp
      go_at_call 65
      (with_reducible refine (rd_body B _ gr (strV s.L.name) (.slice A n c) (.slice A' n' c') (.slice A'' n'' c'') s.word.2 H1.out.drew).mono ?_); rintro e wr ⟨A3, n3, c3, rfl, hm, hnm, hr, hg⟩
      have hz := hK.out _ _ trivial ⟨A3, n3, c3, rfl, hm, hnm, hr, rg_trans (rg_drew (rg_refl gr w1)) hg⟩
      dsimp only [fr4] at hz
      simp only [dq6] at hz
      exact hz
    · injection ho with ho
      subst ho
      intro xf wq hT hd K hK
      obtain ⟨A3, n3, c3, e7, hm, hnm, hr, hg⟩ : TB B gr w1 (strV s.L.name) (.slice A n c) (.slice A' n' c') (.slice A'' n'' c'') s.word.2.body.2 s.word.2.body.1 n s.L.bodies 1 (xf 7) (xf 8) (xf 9) wq := hT
      (try dsimp only [fr4]); (try simp only [e7])
      go_simp
      have hz := hK.out (.slice (some ⟨wq.heap.size, 0, none⟩) 1 1) (wq.alloc (.cells #[strV s.word.2.body.1.name, .slice A3 n3 c3] 56)) trivial ⟨wq, A3, n3, c3, ⟨A3, n3, c3, rfl, hm, hnm, hr, hg⟩, rfl, rfl⟩
      dsimp only [fr4] at hz
      simp only [e7] at hz
      exact hz
    · injection ho with ho
      subst ho
      intro xf wq hT hd K hK
      obtain ⟨w2, A3, n3, c3, ⟨A4, n4, c4, e4, hm, hnm, hr, hg⟩, e8, ew⟩ : TB B gr w1 (strV s.L.name) (.slice A n c) (.slice A' n' c') (.slice A'' n'' c'') s.word.2.body.2 s.word.2.body.1 n s.L.bodies 2 (xf 7) (xf 8) (xf 9) wq := hT
      subst ew
      cases e4
      have dq5 : xf 5 = .slice A n c := hd ⟨5, .data⟩ (by simp) rfl
      obtain ⟨hl, xs, hown, hrow⟩ := BD1.out.rgt HBk.out (by decide) hg (fun _ _ x => x.tch (H1.out.tchR hg) (by decide))
      have hlt := hr.lt
      have hBg := hr.hB
      rw [if_pos (show Region.wanted _ _ = true from rfl)]
      refine wp_append_J _ noW _ _ _ rfl B 56 i0 (.agg #[.string ⟨#[]⟩, .slice none 0 0]) 2 40 Tryz.underlying32 HI.out.1 HI.out.2.1 HI.out.2.2.1 HI.out.2.2.2 rfl (by omega) rfl (.slice A n c) n xs dq5 (hown.belw ((Below.refl _ _).alloc (Nat.le_refl _) _)) ⟨w2.heap.size, 0, none⟩ 1 1 [strV s.word.2.body.1.name, .slice A3 n3 c3] e8 rfl (World.news_of_block (heap_alloc_new w2 _)) (by simp [Value.oneCell']) rfl (by omega) (by have := HP.out.cnt; unfold maxLen; omega) (by have := HP.out.cnt; omega) (by simp; omega) ?_
      intro g5 cap w5 hown5 hgrow _
      have hp := row_push hl hown hrow (a := s.word.2.body.1) (cs := [strV s.word.2.body.1.name, .slice A3 n3 c3]) ⟨A3, n3, c3, rfl, hm, hnm⟩ rfl hown5 hgrow (by omega) (fun _ _ _ ht x => x.tch ht (by decide))
      exact hK.out _ _ trivial ⟨w2, _, some ⟨g5, 0, none⟩, cap, ⟨A3, n3, c3, rfl, hm, hnm, hr, hg⟩, rfl, hp.1, hp.2.1, hp.2.2⟩
  · intro o ho xf wq hT hr K hK
    injection ho with ho
    subst ho
    obtain ⟨w2, v, A5, c5, ⟨A4, n4, c4, e4, hm, hnm, hrd, hg⟩, e9, hrow, ht, hb⟩ : TB B gr w1 (strV s.L.name) (.slice A n c) (.slice A' n' c') (.slice A'' n'' c'') s.word.2.body.2 s.word.2.body.1 n s.L.bodies 3 (xf 7) (xf 8) (xf 9) wq := hT
    have dq12 : xf 12 = .pointer (some ⟨gr, 2, none⟩) := hr 12 (by decide)
    have RQ := hrd.other ht (by decide) hb
    obtain ⟨_, hc2, _, _, _, hf2, _⟩ := RQ.cells
    rw [e9] at hrow
    have RQ' := Lib.hid RQ
    have HROW := Lib.hid hrow
    clear RQ hrow hrd hm hnm hr
    (try dsimp only [fr4]); (try simp only [dq12, e9])
    go_simp
    refine hK.out _ _ ?_
    go_wp2_with fail
    go_end0
    have t1 := H1.out.tchR hg
    have t3 := RQ'.out.tchR (rg_set (rg_refl gr wq) 2 (.slice A5 (n + 1) c5))
    have hst := body_stp s.word.2
    have hL : s.word.2.body.2.L = s.L := ((word_stp s).trans hst).2.2.2
    have htk := word_took (s := s) (by rw [HW1.out]; decide)
    have eW : W = s.word.2.body.2.addB s.word.2.body.1 := by rw [← HW.out]; unfold PS.item; rw [if_pos HW1.out]
    subst eW
    refine ⟨rfl, ⟨A5, n + 1, c5, A', n', c', A'', n'', c'', ⟨?_, ?_, ?_, ?_, ?_, ?_, ?_⟩⟩, ?_⟩
    · show RdP B _ gr (strV s.word.2.body.2.L.name) _ _ _ _
      rw [hL]
      exact RQ'.out.put2 _ rfl rfl rfl
    · show RowT _ _ _ _ _ _ _ (s.word.2.body.2.L.bodies ++ [s.word.2.body.1])
      rw [hL]
      exact HROW.out.tch t3 (by decide) (fun _ _ x => x.tch t3 (by decide))
    · show RowT _ _ _ _ _ _ _ s.word.2.body.2.L.joints
      rw [hL]
      exact ((JT1.out.tch t1 (by decide) (fun _ _ x => x)).tch ht (by decide) (fun _ _ x => x)).tch t3 (by decide) (fun _ _ x => x)
    · show RowT _ _ _ _ _ _ _ s.word.2.body.2.L.drivers
      rw [hL]
      exact ((DR1.out.tch t1 (by decide) (fun _ _ x => x)).tch ht (by decide) (fun _ _ x => x)).tch t3 (by decide) (fun _ _ x => x)
    · show NmL s.word.2.body.2.L.name
      rw [hL]
      exact HP.out.nm
    · show n + 1 + n' + n'' + s.word.2.body.2.toks.length ≤ _
      have h1 := HP.out.cnt
      have h2 := hst.1
      omega
    · intro b hbm
      have hbm : b ∈ s.word.2.body.2.L.bodies ++ [s.word.2.body.1] := hbm
      rw [hL] at hbm
      rcases List.mem_append.1 hbm with hbm | hbm
      · exact HP.out.pts b hbm
      · simp at hbm
        subst hbm
        have h1 := body_pts s.word.2
        have h2 := H1.out.len
        omega
    · exact ((BW1.out.trans (rg_bel hg (by have := H1.out.lt; have := H1.out.hB; omega) H1.out.hB)).trans hb).setCell (p := ⟨gr, 2, none⟩) H1.out.hB _
theorem rd_item_pin (B : Nat) (w : World) (gr : Nat) (s : PS) (A : Option Addr) (n c : Nat) (A' : Option Addr) (n' c' : Nat) (A'' : Option Addr) (n'' c'' : Nat) (h : RdL B w gr s A n c A' n' c' A'' n'' c'') (hw1 : s.word.1 = wPin) : Calls Tryz.prog 53 #[.pointer (some ⟨gr, 0, none⟩)] w (RetL_ B w gr s.item) := by
  have HW1 := Lib.hid hw1
  have hb0 : (s.word.1 == [98, 111, 100, 121]) = false := by rw [hw1]; decide
  have hb1 : (s.word.1 == [112, 105, 110]) = true := by rw [hw1]; decide
  have hb2 : (s.word.1 == [115, 108, 105, 100, 101]) = false := by rw [hw1]; decide
  clear hw1
  obtain ⟨i0, hi0, hz0, hz1, hz2⟩ := info_parts info_bd
  obtain ⟨ij, hj0, hj1, hj2, hj3⟩ := info_parts info_jt
  obtain ⟨id, hd0, hd1, hd2, hd3⟩ := info_parts info_dr
  have HI := Lib.hid (And.intro hi0 (And.intro hz0 (And.intro hz1 hz2)))
  have HIJ := Lib.hid (And.intro hj0 (And.intro hj1 (And.intro hj2 hj3)))
  have HID := Lib.hid (And.intro hd0 (And.intro hd1 (And.intro hd2 hd3)))
  clear hi0 hz0 hz1 hz2 hj0 hj1 hj2 hj3 hd0 hd1 hd2 hd3
  have HL1 := Lib.hid (word_stp s).2.2.2
  have HL2 := Lib.hid ((word_stp s).trans (word_stp s.word.2)).2.2.2
  have HP := Lib.hid h
  obtain ⟨W, hW⟩ : ∃ W, s.item = W := ⟨_, rfl⟩
  rw [hW]
  have HW := Lib.hid hW
  clear h hW
  go_enter Tryz.func53, Tryz.ntmps53
  go_wp2_with fail
  (with_reducible refine (rd_word B _ gr (strV s.L.name) (.slice A n c) (.slice A' n' c') (.slice A'' n'' c'') s HP.out.rd).mono ?_); rintro e w1 ⟨rfl, h1, hg1⟩
  have H1 := Lib.hid h1
  have hgl := h1.lt
  have BW1 := Lib.hid (rg_bel hg1 (B := B) (by have := HP.out.rd.lt; have := HP.out.rd.hB; omega) HP.out.rd.hB)
  have t0 := HP.out.rd.tchR hg1
  have BD1 := Lib.hid (HP.out.bd.tch t0 (by decide) (fun _ _ x => x.tch t0 (by decide)))
  have JT1 := Lib.hid (HP.out.jt.tch t0 (by decide) (fun _ _ x => x))
  have DR1 := Lib.hid (HP.out.dr.tch t0 (by decide) (fun _ _ x => x))
  obtain ⟨Ak, nk, ck, hbk, _⟩ := h1.blk
  have HBk := Lib.hid hbk
  clear h1 hg1 t0 hbk
  have hn := toList_v s.word.1
  go_wp2_with fail
  (with_reducible refine (rd_word B _ gr (strV s.L.name) (.slice A n c) (.slice A' n' c') (.slice A'' n'' c'') s.word.2 H1.out).mono ?_); rintro e w2 ⟨rfl, h2, hg2⟩
  have H2 := Lib.hid h2
  have hlj := h2.lt
  have hw2 := hg2.size
  have HNM := Lib.hid (word_nm H1.out.txt)
  clear h2
  go_wp2_with fail
  (with_reducible refine (rd_full B _ gr (strV s.L.name) (.slice A' n' c') (.slice A'' n'' c'') A n c s.word.2.word.2 (H2.out.alloc _) (by rw [HL2.out]; exact H1.out.bodies BD1.out (rg_alloc hg2 _)) (by have := HP.out.cnt; omega) (by rw [HL2.out]; exact fun b hb => Nat.le_trans (HP.out.pts b hb) (by decide)) (-1)).mono ?_); rintro e w3 ⟨rfl, h3, hg3⟩
  have hsa := full_stp s.word.2.word.2 (-1)
  generalize hfa : s.word.2.word.2.full (-1) = fa at h3 hsa ⊢
  have HFA := Lib.hid hfa
  have HSA := Lib.hid ((word_stp s.word.2).trans hsa)
  clear hfa hsa
  have G3 := rg_trans (rg_alloc hg2 _) hg3
  have p3 : Blk w3 w2.heap.size 60 #[strV s.word.2.word.1, .int .i64 0, .int .i64 0, .int .i64 0, .int .i64 0, .int .i64 0, .int .i64 0] := rg_blk hg3 (Blk.new _ _ _) (by omega)
  have hl3 := p3.lt
  have H3 := Lib.hid h3
  generalize hgj : w2.heap.size = gj at hlj hw2 p3 hl3 ⊢
  have HNE := Lib.hid (own_lt JT1.out (g := gj) (by omega))
  clear hgj hg3 h3 hg2 H2
  obtain ⟨cj0, cj1, cj2, cj3, cj4, cj5, cj6⟩ := p3.c7
  obtain ⟨fj0, fj1, fj2, fj3, fj4, fj5, fj6⟩ := p3.f7
  have P3 := Lib.hid p3
  clear p3
  go_wp2_with fail
  clear cj0 cj1 cj2 cj3 cj4 cj5 cj6 fj0 fj1 fj2 fj3 fj4 fj5 fj6
  have B3 := bel_set2 w3 hlj 2 3 (.int .i64 fa.1) (.int .i64 fa.2.1)
  have G3' := rg_bel1 G3 (bel_set2 w3 hw2 2 3 (.int .i64 fa.1) (.int .i64 fa.2.1))
  (with_reducible refine (rd_full B _ gr (strV s.L.name) (.slice A' n' c') (.slice A'' n'' c'') A n c fa.2.2 (H3.out.bel1 B3) (by rw [HSA.out.sameL, HL1.out]; exact H1.out.bodies BD1.out G3') (by have := HP.out.cnt; omega) (by rw [HSA.out.sameL, HL1.out]; exact fun b hb => Nat.le_trans (HP.out.pts b hb) (by decide)) (-1)).mono ?_); rintro e w4 ⟨rfl, h4, hg4⟩
  have hsb := full_stp fa.2.2 (-1)
  generalize hfb : fa.2.2.full (-1) = fb at h4 hsb ⊢
  have HFB := Lib.hid hfb
  have HSB := Lib.hid (HSA.out.trans hsb)
  clear hfb hsb
  have G4 := rg_trans G3' hg4
  have p4 := rg_blk hg4 ((P3.out.set_ 2 (.int .i64 fa.1)).set_ 3 (.int .i64 fa.2.1)) (by omega)
  have p4 := p4
  have H4 := Lib.hid h4
  have hl4 := p4.lt
  obtain ⟨cj0, cj1, cj2, cj3, cj4, cj5, cj6⟩ := p4.c7
  obtain ⟨fj0, fj1, fj2, fj3, fj4, fj5, fj6⟩ := p4.f7
  have P4 := Lib.hid p4
  clear p4 h4 hg4 G3 G3' B3 P3 H3 hl3
  go_wp2_with fail
  clear cj0 cj1 cj2 cj3 cj4 cj5 cj6 fj0 fj1 fj2 fj3 fj4 fj5 fj6
  (with_reducible refine (rd_sign B _ gr (strV s.L.name) (.slice A n c) (.slice A' n' c') (.slice A'' n'' c'') fb.2.2 (H4.out.bel1 (bel_set2 w4 hlj 4 5 (.int .i64 fb.1) (.int .i64 fb.2.1))) [59]).mono ?_); rintro e w6 ⟨rfl, h6, hg6⟩
  have G6 := Lib.hid (rg_trans (rg_bel1 G4 (bel_set2 w4 hw2 4 5 (.int .i64 fb.1) (.int .i64 fb.2.1))) hg6)
  have p6 := rg_blk hg6 ((P4.out.set_ 4 (.int .i64 fb.1)).set_ 5 (.int .i64 fb.2.1)) (by omega)
  have H6 := Lib.hid h6
  have P6 := Lib.hid p6
  have HC := Lib.hid (show JtC w6 [strV s.word.2.word.1, .int .i64 0, .int .i64 fa.1, .int .i64 fa.2.1, .int .i64 fb.1, .int .i64 fb.2.1, .int .i64 0] ⟨s.word.2.word.1, 0, fa.1, fa.2.1, fb.1, fb.2.1, 0⟩ from ⟨rfl, HNM.out⟩)
  have JT6 := Lib.hid (JT1.out.tch (H1.out.tchR G6.out) (by decide) (fun _ _ x => x))
  clear h6 hg6 p6
  go_wp2_with fail
  change Code.wp _ _ _ (fr14 _ _ _ _ _ _ _ _ _ _ _ _ _ _ _ _ _ _ _ _ _ _ _ _ _ _ _ _ _ _ _ _ _ _ _ _ _ _ _ _ _ _ _ _ _ _ _ _ _ _ _ _ _ _ _ _ _ _ _ _ _ _ _ _ _ _ _ _ _ _ _ _ _ _ _ _ _ _ _ _ _ (fun _ => undef)) _
  refine wp_region_stg (n := 12) (a := 7) (K := 2) (x0 := fun _ => undef) (R := fun ri => List.getD ((VE (.pointer (some ⟨gr, 0, none⟩))) :: (VE (.pointer (some ⟨gr, 0, none⟩))) :: (VE (.pointer (some ⟨gr, 0, none⟩))) :: (VE (.pointer (some ⟨gr, 1, none⟩))) :: (VE (.pointer (some ⟨gr, 3, none⟩))) :: (VE (.slice A' n' c')) :: (VE (.agg #[strV s.word.2.word.1, .int .i64 0, .int .i64 fa.1, .int .i64 fa.2.1, .int .i64 fb.1, .int .i64 fb.2.1, .int .i64 0])) :: VA :: VA :: (VE (.pointer (some ⟨gr, 0, none⟩))) :: (VE (.pointer (some ⟨gr, 1, none⟩))) :: (VE (.pointer (some ⟨gr, 3, none⟩))) :: []) ri VA) (T := fun k x wq => TJ_ 60 JtC 7 B gj w6 [strV s.word.2.word.1, .int .i64 0, .int .i64 fa.1, .int .i64 fa.2.1, .int .i64 fb.1, .int .i64 fb.2.1, .int .i64 0] ⟨s.word.2.word.1, 0, fa.1, fa.2.1, fb.1, fb.2.1, 0⟩ n' s.L.joints k (x 7) (x 8) wq) (by kernel_rfl) rfl ?_ ?_ ?_ (by decide) ?_ ?_ rfl ?_ ?_ ?_
  · exact each_of ⟨(fun _ _ _ => rfl), (fun _ _ _ => rfl), (fun _ _ _ => rfl), (fun _ _ _ => rfl), (fun _ _ _ => rfl), (fun _ _ _ => rfl), (fun _ _ _ => rfl), (fun _ _ _ => rfl), (fun _ _ _ => rfl), (fun _ _ _ => rfl), (fun _ _ _ => rfl), (fun _ _ _ => rfl), (fun h => absurd h (by decide)), trivial⟩
  · exact each_of (acyc_from _ 0 (by kernel_rfl))
  · exact (fun j hj => reach_of (by kernel_rfl) hj)
  · intro j o hj ho
    obtain rfl : j = 0 := by omega
    injection ho with ho
    subst ho
    exact ⟨⟨7, .data⟩, by simp, rfl, rfl⟩
  · intro k x i v w hi h
    have e7 : upd x i v 7 = x 7 := upd_ne _ _ (by omega)
    have e8 : upd x i v 8 = x 8 := upd_ne _ _ (by omega)
    simp only [e7, e8]
    exact h
  · refine each_of ⟨?_, ?_, ?_, ?_, ?_, ?_, ?_, (fun _ h => absurd h (by decide)), (fun _ h => absurd h (by decide)), ?_, ?_, ?_, (fun h => absurd h (by decide)), trivial⟩
    · intro _ _ k xf wq hT hd K hK
      (try dsimp only [fr14])
      go_simp
      have hz := hK.out _ rfl
      exact hz
    · intro _ _ k xf wq hT hd K hK
      (try dsimp only [fr14])
      go_simp
      have hz := hK.out _ rfl
      exact hz
    · intro _ _ k xf wq hT hd K hK
      have dq1 : xf 1 = .pointer (some ⟨gr, 0, none⟩) := hd ⟨1, .data⟩ (by simp) rfl
      (try dsimp only [fr14]); (try simp only [dq1])
      go_simp
      have hz := hK.out _ rfl
      dsimp only [fr14] at hz
      simp only [dq1] at hz
      exact hz
    · intro _ _ k xf wq hT hd K hK
      have dq2 : xf 2 = .pointer (some ⟨gr, 0, none⟩) := hd ⟨2, .data⟩ (by simp) rfl
      (try dsimp only [fr14]); (try simp only [dq2])
      go_simp
      have hz := hK.out _ rfl
      dsimp only [fr14] at hz
      simp only [dq2] at hz
      exact hz
    · intro _ _ k xf wq hT hd K hK
      have dq3 : xf 3 = .pointer (some ⟨gr, 1, none⟩) := hd ⟨3, .data⟩ (by simp) rfl
      (try dsimp only [fr14]); (try simp only [dq3])
      go_simp
      have hz := hK.out _ rfl
      dsimp only [fr14] at hz
      simp only [dq3] at hz
      exact hz
    · intro _ _ k xf wq hT hd K hK
      have dq4 : xf 4 = .pointer (some ⟨gr, 3, none⟩) := hd ⟨4, .data⟩ (by simp) rfl
      have hc2 := (TJ_.rd (by decide) H6.out hT).cells
      obtain ⟨_, hc2, hc3, hc4, _⟩ := hc2
      (try dsimp only [fr14]); (try simp only [dq4])
      go_simp
      have hz := hK.out _ rfl
      dsimp only [fr14] at hz
      simp only [dq4] at hz
      exact hz
    · intro _ _ k xf wq hT hd K hK
      obtain ⟨hd0, hd1, hd2, hd3, hd4, hd5, hd6⟩ := (TJ_.blk P6.out hT).c7
      (try dsimp only [fr14])
      go_simp
      have hz := hK.out _ rfl
      exact hz
    · intro _ _ k xf wq hT hd K hK
      have dq0 : xf 0 = .pointer (some ⟨gr, 0, none⟩) := hd ⟨0, .data⟩ (by simp) rfl
      (try dsimp only [fr14]); (try simp only [dq0])
      go_simp
      have hz := hK.out _ rfl
      dsimp only [fr14] at hz
      simp only [dq0] at hz
      exact hz
    · intro _ _ k xf wq hT hd K hK
      have dq9 : xf 9 = .pointer (some ⟨gr, 0, none⟩) := hd ⟨9, .data⟩ (by simp) rfl
      (try dsimp only [fr14]); (try simp only [dq9])
      go_simp
      have hz := hK.out _ rfl
      dsimp only [fr14] at hz
      simp only [dq9] at hz
      exact hz
    · intro _ _ k xf wq hT hd K hK
      have dq10 : xf 10 = .pointer (some ⟨gr, 1, none⟩) := hd ⟨10, .data⟩ (by simp) rfl
      (try dsimp only [fr14]); (try simp only [dq10])
      go_simp
      have hz := hK.out _ rfl
      dsimp only [fr14] at hz
      simp only [dq10] at hz
      exact hz
  · intro k o hk ho
    obtain rfl | rfl := (show k = 0 ∨ k = 1 by omega)
    · injection ho with ho
      subst ho
      intro xf wq hT hd K hK
      have hT : wq = w6.drew := hT
      subst hT
      have dq6 : xf 6 = .agg #[strV s.word.2.word.1, .int .i64 0, .int .i64 fa.1, .int .i64 fa.2.1, .int .i64 fb.1, .int .i64 fb.2.1, .int .i64 0] := hd ⟨6, .data⟩ (by simp) rfl
      (try dsimp only [fr14]); (try simp only [dq6])
      go_simp
      have hz := hK.out (.slice (some ⟨w6.heap.size, 0, none⟩) 1 1) (w6.drew.alloc (.cells #[strV s.word.2.word.1, .int .i64 0, .int .i64 fa.1, .int .i64 fa.2.1, .int .i64 fb.1, .int .i64 fb.2.1, .int .i64 0] 60)) trivial ⟨rfl, rfl⟩
      dsimp only [fr14] at hz
      simp only [dq6] at hz
      exact hz
    · injection ho with ho
      subst ho
      intro xf wq hT hd K hK
      obtain ⟨e7, ew⟩ : TJ_ 60 JtC 7 B gj w6 [strV s.word.2.word.1, .int .i64 0, .int .i64 fa.1, .int .i64 fa.2.1, .int .i64 fb.1, .int .i64 fb.2.1, .int .i64 0] ⟨s.word.2.word.1, 0, fa.1, fa.2.1, fb.1, fb.2.1, 0⟩ n' s.L.joints 1 (xf 7) (xf 8) wq := hT
      subst ew
      have dq5 : xf 5 = .slice A' n' c' := hd ⟨5, .data⟩ (by simp) rfl
      obtain ⟨hl, xs, hown, hrow⟩ := JT6.out
      have hown : OwJ noW w6.drew B 60 7 (.slice A' n' c') n' xs := hown
      have hrow : RowC JtC 7 w6.drew s.L.joints xs := hrow
      have hlt := H6.out.lt
      have hBg := H6.out.hB
      have hds : w6.drew.heap.size = w6.heap.size := rfl
      rw [if_pos (show Region.wanted _ _ = true from rfl)]
      refine wp_append_J _ noW _ _ _ rfl B 60 ij (.agg #[.string ⟨#[]⟩, .int .i64 0, .int .i64 0, .int .i64 0, .int .i64 0, .int .i64 0, .int .i64 0]) 7 64 Tryz.underlying33 HIJ.out.1 HIJ.out.2.1 HIJ.out.2.2.1 HIJ.out.2.2.2 rfl (by omega) rfl (.slice A' n' c') n' xs dq5 (hown.belw ((Below.refl _ _).alloc (Nat.le_refl _) _)) ⟨w6.heap.size, 0, none⟩ 1 1 [strV s.word.2.word.1, .int .i64 0, .int .i64 fa.1, .int .i64 fa.2.1, .int .i64 fb.1, .int .i64 fb.2.1, .int .i64 0] e7 rfl (World.news_of_block (heap_alloc_new w6.drew _)) (by simp [Value.oneCell']) rfl (by omega) (by have := HP.out.cnt; unfold maxLen; omega) (by have := HP.out.cnt; omega) (by simp; omega) ?_
      intro g5 cap w5 hown5 hgrow _
      have hp := row_push hl hown hrow (a := ⟨s.word.2.word.1, 0, fa.1, fa.2.1, fb.1, fb.2.1, 0⟩) (cs := [strV s.word.2.word.1, .int .i64 0, .int .i64 fa.1, .int .i64 fa.2.1, .int .i64 fb.1, .int .i64 fb.2.1, .int .i64 0]) (show JtC w6.drew _ (⟨s.word.2.word.1, 0, fa.1, fa.2.1, fb.1, fb.2.1, 0⟩ : JointL) from HC.out) rfl hown5 hgrow (by omega) (fun _ _ _ _ x => x)
      exact hK.out _ _ trivial ⟨some ⟨g5, 0, none⟩, cap, rfl, hp.1, (P6.out.drew.alloc _).grown hgrow HNE.out, hp.2.1, ((Below.refl B w6).drew).trans hp.2.2⟩
  · intro o ho xf wq hT hr K hK
    injection ho with ho
    subst ho
    obtain ⟨A5, c5, e8, hrow, _, ht, hb⟩ : TJ_ 60 JtC 7 B gj w6 [strV s.word.2.word.1, .int .i64 0, .int .i64 fa.1, .int .i64 fa.2.1, .int .i64 fb.1, .int .i64 fb.2.1, .int .i64 0] ⟨s.word.2.word.1, 0, fa.1, fa.2.1, fb.1, fb.2.1, 0⟩ n' s.L.joints 2 (xf 7) (xf 8) wq := hT
    have dq11 : xf 11 = .pointer (some ⟨gr, 3, none⟩) := hr 11 (by decide)
    have RQ := H6.out.other ht (by decide) hb
    obtain ⟨_, hc2, hc3, hc4, _, hf2, hf3, hf4⟩ := RQ.cells
    rw [e8] at hrow
    have RQ' := Lib.hid RQ
    have HROW := Lib.hid hrow
    clear RQ hrow hr
    (try dsimp only [fr14]); (try simp only [dq11, e8])
    go_simp
    refine hK.out _ _ ?_
    go_wp2_with fail
    go_end0
    have t1 := H1.out.tchR G6.out
    have t3 := RQ'.out.tchR (rg_set (rg_refl gr wq) 3 (.slice A5 (n' + 1) c5))
    have hst := HSB.out.trans (expect_stp fb.2.2 2 [59])
    have hL : (PS.expect fb.2.2 2 [59]).L = s.L := hst.2.2.2.trans HL1.out
    have htk := word_took (s := s) (by rw [HW1.out]; decide)
    have hst1 := hst.1
    have eW : W = PS.addJ (PS.expect fb.2.2 2 [59]) ⟨s.word.2.word.1, 0, fa.1, fa.2.1, fb.1, fb.2.1, 0⟩ := by
      rw [← HW.out]; unfold PS.item; rw [if_neg (by rw [HW1.out]; decide), if_pos HW1.out]; unfold PS.joint
      simp only [HFA.out, HFB.out, Bool.false_eq_true, if_false]
    subst eW
    refine ⟨rfl, ⟨A, n, c, A5, n' + 1, c5, A'', n'', c'', ⟨?_, ?_, ?_, ?_, ?_, ?_, ?_⟩⟩, ?_⟩
    · show RdP B _ gr (strV (PS.expect fb.2.2 2 [59]).L.name) _ _ _ _
      rw [hL]
      exact RQ'.out.put3 _ rfl rfl rfl
    · show RowT _ _ _ _ _ _ _ (PS.expect fb.2.2 2 [59]).L.bodies
      rw [hL]
      exact ((BD1.out.tch t1 (by decide) (fun _ _ x => x.tch t1 (by decide))).tch ht (by decide) (fun _ _ x => x.tch ht (by decide))).tch t3 (by decide) (fun _ _ x => x.tch t3 (by decide))
    · show RowT _ _ _ _ _ _ _ ((PS.expect fb.2.2 2 [59]).L.joints ++ [⟨s.word.2.word.1, 0, fa.1, fa.2.1, fb.1, fb.2.1, 0⟩])
      rw [hL]
      exact HROW.out.tch t3 (by decide) (fun _ _ x => x)
    · show RowT _ _ _ _ _ _ _ (PS.expect fb.2.2 2 [59]).L.drivers
      rw [hL]
      exact ((DR1.out.tch t1 (by decide) (fun _ _ x => x)).tch ht (by decide) (fun _ _ x => x)).tch t3 (by decide) (fun _ _ x => x)
    · show NmL (PS.expect fb.2.2 2 [59]).L.name
      rw [hL]
      exact HP.out.nm
    · show n + (n' + 1) + n'' + (PS.expect fb.2.2 2 [59]).toks.length ≤ _
      have h1 := HP.out.cnt
      omega
    · intro b hbm
      have hbm : b ∈ (PS.expect fb.2.2 2 [59]).L.bodies := hbm
      rw [hL] at hbm
      exact HP.out.pts b hbm
    · exact ((BW1.out.trans (rg_bel G6.out (by have := H1.out.lt; have := H1.out.hB; omega) H1.out.hB)).trans hb).setCell (p := ⟨gr, 3, none⟩) H1.out.hB _
theorem rd_item_slide (B : Nat) (w : World) (gr : Nat) (s : PS) (A : Option Addr) (n c : Nat) (A' : Option Addr) (n' c' : Nat) (A'' : Option Addr) (n'' c'' : Nat) (h : RdL B w gr s A n c A' n' c' A'' n'' c'') (hw1 : s.word.1 = wSlide) : Calls Tryz.prog 53 #[.pointer (some ⟨gr, 0, none⟩)] w (RetL_ B w gr s.item) := by
  have HW1 := Lib.hid hw1
  have hb0 : (s.word.1 == [98, 111, 100, 121]) = false := by rw [hw1]; decide
  have hb1 : (s.word.1 == [112, 105, 110]) = false := by rw [hw1]; decide
  have hb2 : (s.word.1 == [115, 108, 105, 100, 101]) = true := by rw [hw1]; decide
  clear hw1
  obtain ⟨i0, hi0, hz0, hz1, hz2⟩ := info_parts info_bd
  obtain ⟨ij, hj0, hj1, hj2, hj3⟩ := info_parts info_jt
  obtain ⟨id, hd0, hd1, hd2, hd3⟩ := info_parts info_dr
  have HI := Lib.hid (And.intro hi0 (And.intro hz0 (And.intro hz1 hz2)))
  have HIJ := Lib.hid (And.intro hj0 (And.intro hj1 (And.intro hj2 hj3)))
  have HID := Lib.hid (And.intro hd0 (And.intro hd1 (And.intro hd2 hd3)))
  clear hi0 hz0 hz1 hz2 hj0 hj1 hj2 hj3 hd0 hd1 hd2 hd3
  have HL1 := Lib.hid (word_stp s).2.2.2
  have HL2 := Lib.hid ((word_stp s).trans (word_stp s.word.2)).2.2.2
  have HP := Lib.hid h
  obtain ⟨W, hW⟩ : ∃ W, s.item = W := ⟨_, rfl⟩
  rw [hW]
  have HW := Lib.hid hW
  clear h hW
  go_enter Tryz.func53, Tryz.ntmps53
  go_wp2_with fail
  (with_reducible refine (rd_word B _ gr (strV s.L.name) (.slice A n c) (.slice A' n' c') (.slice A'' n'' c'') s HP.out.rd).mono ?_); rintro e w1 ⟨rfl, h1, hg1⟩
  have H1 := Lib.hid h1
  have hgl := h1.lt
  have BW1 := Lib.hid (rg_bel hg1 (B := B) (by have := HP.out.rd.lt; have := HP.out.rd.hB; omega) HP.out.rd.hB)
  have t0 := HP.out.rd.tchR hg1
  have BD1 := Lib.hid (HP.out.bd.tch t0 (by decide) (fun _ _ x => x.tch t0 (by decide)))
  have JT1 := Lib.hid (HP.out.jt.tch t0 (by decide) (fun _ _ x => x))
  have DR1 := Lib.hid (HP.out.dr.tch t0 (by decide) (fun _ _ x => x))
  obtain ⟨Ak, nk, ck, hbk, _⟩ := h1.blk
  have HBk := Lib.hid hbk
  clear h1 hg1 t0 hbk
  have hn := toList_v s.word.1
  go_wp2_with fail
  (with_reducible refine (rd_word B _ gr (strV s.L.name) (.slice A n c) (.slice A' n' c') (.slice A'' n'' c'') s.word.2 H1.out).mono ?_); rintro e w2 ⟨rfl, h2, hg2⟩
  have H2 := Lib.hid h2
  have hlj := h2.lt
  have hw2 := hg2.size
  have HNM := Lib.hid (word_nm H1.out.txt)
  clear h2
  go_wp2_with fail
  (with_reducible refine (rd_full B _ gr (strV s.L.name) (.slice A' n' c') (.slice A'' n'' c'') A n c s.word.2.word.2 (H2.out.alloc _) (by rw [HL2.out]; exact H1.out.bodies BD1.out (rg_alloc hg2 _)) (by have := HP.out.cnt; omega) (by rw [HL2.out]; exact fun b hb => Nat.le_trans (HP.out.pts b hb) (by decide)) (-1)).mono ?_); rintro e w3 ⟨rfl, h3, hg3⟩
  have hsa := full_stp s.word.2.word.2 (-1)
  generalize hfa : s.word.2.word.2.full (-1) = fa at h3 hsa ⊢
  have HFA := Lib.hid hfa
  have HSA := Lib.hid ((word_stp s.word.2).trans hsa)
  clear hfa hsa
  have G3 := rg_trans (rg_alloc hg2 _) hg3
  have p3 : Blk w3 w2.heap.size 60 #[strV s.word.2.word.1, .int .i64 0, .int .i64 0, .int .i64 0, .int .i64 0, .int .i64 0, .int .i64 0] := rg_blk hg3 (Blk.new _ _ _) (by omega)
  have hl3 := p3.lt
  have H3 := Lib.hid h3
  generalize hgj : w2.heap.size = gj at hlj hw2 p3 hl3 ⊢
  have HNE := Lib.hid (own_lt JT1.out (g := gj) (by omega))
  clear hgj hg3 h3 hg2 H2
  obtain ⟨cj0, cj1, cj2, cj3, cj4, cj5, cj6⟩ := p3.c7
  obtain ⟨fj0, fj1, fj2, fj3, fj4, fj5, fj6⟩ := p3.f7
  have P3 := Lib.hid p3
  clear p3
  go_wp2_with fail
  clear cj0 cj1 cj2 cj3 cj4 cj5 cj6 fj0 fj1 fj2 fj3 fj4 fj5 fj6
  have B3 := bel_set2 w3 hlj 2 3 (.int .i64 fa.1) (.int .i64 fa.2.1)
  have G3' := rg_bel1 G3 (bel_set2 w3 hw2 2 3 (.int .i64 fa.1) (.int .i64 fa.2.1))
  (with_reducible refine (rd_full B _ gr (strV s.L.name) (.slice A' n' c') (.slice A'' n'' c'') A n c fa.2.2 (H3.out.bel1 B3) (by rw [HSA.out.sameL, HL1.out]; exact H1.out.bodies BD1.out G3') (by have := HP.out.cnt; omega) (by rw [HSA.out.sameL, HL1.out]; exact fun b hb => Nat.le_trans (HP.out.pts b hb) (by decide)) (-1)).mono ?_); rintro e w4 ⟨rfl, h4, hg4⟩
  have hsb := full_stp fa.2.2 (-1)
  generalize hfb : fa.2.2.full (-1) = fb at h4 hsb ⊢
  have HFB := Lib.hid hfb
  have HSB := Lib.hid (HSA.out.trans hsb)
  clear hfb hsb
  have G4 := rg_trans G3' hg4
  have p4 := rg_blk hg4 ((P3.out.set_ 2 (.int .i64 fa.1)).set_ 3 (.int .i64 fa.2.1)) (by omega)
  have p4 := p4
  have H4 := Lib.hid h4
  have hl4 := p4.lt
  obtain ⟨cj0, cj1, cj2, cj3, cj4, cj5, cj6⟩ := p4.c7
  obtain ⟨fj0, fj1, fj2, fj3, fj4, fj5, fj6⟩ := p4.f7
  have P4 := Lib.hid p4
  clear p4 h4 hg4 G3 G3' B3 P3 H3 hl3
  go_wp2_with fail
  clear cj0 cj1 cj2 cj3 cj4 cj5 cj6 fj0 fj1 fj2 fj3 fj4 fj5 fj6
  have B4 := (bel_set2 w4 hlj 4 5 (.int .i64 fb.1) (.int .i64 fb.2.1)).setCell (p := ⟨gj, 1, none⟩) hlj (.int .i64 1)
  have G4' := rg_bel1 G4 ((bel_set2 w4 hw2 4 5 (.int .i64 fb.1) (.int .i64 fb.2.1)).setCell (p := ⟨gj, 1, none⟩) hw2 (.int .i64 1))
  have Q4 := Lib.hid (((P4.out.set_ 4 (.int .i64 fb.1)).set_ 5 (.int .i64 fb.2.1)).set_ 1 (.int .i64 1))
  (with_reducible refine (rd_full B _ gr (strV s.L.name) (.slice A' n' c') (.slice A'' n'' c'') A n c fb.2.2 (H4.out.bel1 B4) (by rw [HSB.out.sameL, HL1.out]; exact H1.out.bodies BD1.out G4') (by have := HP.out.cnt; omega) (by rw [HSB.out.sameL, HL1.out]; exact fun b hb => Nat.le_trans (HP.out.pts b hb) (by decide)) fb.1).mono ?_); rintro e w5 ⟨rfl, h5, hg5⟩
  have hsc := full_stp fb.2.2 fb.1
  generalize hft : fb.2.2.full fb.1 = ft at h5 hsc ⊢
  have HFT := Lib.hid hft
  have HSC := Lib.hid (HSB.out.trans hsc)
  clear hft hsc
  have G5 := rg_trans G4' hg5
  have p5 := rg_blk hg5 Q4.out (by omega)
  have H5 := Lib.hid h5
  have hl5 := p5.lt
  obtain ⟨cj0, cj1, cj2, cj3, cj4, cj5, cj6⟩ := p5.c7
  obtain ⟨fj0, fj1, fj2, fj3, fj4, fj5, fj6⟩ := p5.f7
  have P5 := Lib.hid p5
  clear p5 h5 hg5 G4 G4' B4 P4 H4 Q4 hl4
  go_wp2_with fail
  clear cj0 cj1 cj2 cj3 cj4 cj5 cj6 fj0 fj1 fj2 fj3 fj4 fj5 fj6
  (with_reducible refine (rd_sign B _ gr (strV s.L.name) (.slice A n c) (.slice A' n' c') (.slice A'' n'' c'') ft.2.2 (H5.out.bel1 ((Below.refl _ w5).setCell (p := ⟨gj, 6, none⟩) hlj (.int .i64 ft.2.1))) [59]).mono ?_); rintro e w6 ⟨rfl, h6, hg6⟩
  have G6 := Lib.hid (rg_trans (rg_bel1 G5 ((Below.refl _ w5).setCell (p := ⟨gj, 6, none⟩) hw2 (.int .i64 ft.2.1))) hg6)
  have p6 := rg_blk hg6 (P5.out.set_ 6 (.int .i64 ft.2.1)) (by omega)
  have H6 := Lib.hid h6
  have P6 := Lib.hid p6
  have HC := Lib.hid (show JtC w6 [strV s.word.2.word.1, .int .i64 1, .int .i64 fa.1, .int .i64 fa.2.1, .int .i64 fb.1, .int .i64 fb.2.1, .int .i64 ft.2.1] ⟨s.word.2.word.1, 1, fa.1, fa.2.1, fb.1, fb.2.1, ft.2.1⟩ from ⟨rfl, HNM.out⟩)
  have JT6 := Lib.hid (JT1.out.tch (H1.out.tchR G6.out) (by decide) (fun _ _ x => x))
  clear h6 hg6 p6
  go_wp2_with fail
  change Code.wp _ _ _ (fr14 _ _ _ _ _ _ _ _ _ _ _ _ _ _ _ _ _ _ _ _ _ _ _ _ _ _ _ _ _ _ _ _ _ _ _ _ _ _ _ _ _ _ _ _ _ _ _ _ _ _ _ _ _ _ _ _ _ _ _ _ _ _ _ _ _ _ _ _ _ _ _ _ _ _ _ _ _ _ _ _ _ (fun _ => undef)) _
  refine wp_region_stg (n := 12) (a := 7) (K := 2) (x0 := fun _ => undef) (R := fun ri => List.getD ((VE (.pointer (some ⟨gr, 0, none⟩))) :: (VE (.pointer (some ⟨gr, 0, none⟩))) :: (VE (.pointer (some ⟨gr, 0, none⟩))) :: (VE (.pointer (some ⟨gr, 1, none⟩))) :: (VE (.pointer (some ⟨gr, 3, none⟩))) :: (VE (.slice A' n' c')) :: (VE (.agg #[strV s.word.2.word.1, .int .i64 1, .int .i64 fa.1, .int .i64 fa.2.1, .int .i64 fb.1, .int .i64 fb.2.1, .int .i64 ft.2.1])) :: VA :: VA :: (VE (.pointer (some ⟨gr, 0, none⟩))) :: (VE (.pointer (some ⟨gr, 1, none⟩))) :: (VE (.pointer (some ⟨gr, 3, none⟩))) :: []) ri VA) (T := fun k x wq => TJ_ 60 JtC 7 B gj w6 [strV s.word.2.word.1, .int .i64 1, .int .i64 fa.1, .int .i64 fa.2.1, .int .i64 fb.1, .int .i64 fb.2.1, .int .i64 ft.2.1] ⟨s.word.2.word.1, 1, fa.1, fa.2.1, fb.1, fb.2.1, ft.2.1⟩ n' s.L.joints k (x 7) (x 8) wq) (by kernel_rfl) rfl ?_ ?_ ?_ (by decide) ?_ ?_ rfl ?_ ?_ ?_
  · exact each_of ⟨(fun _ _ _ => rfl), (fun _ _ _ => rfl), (fun _ _ _ => rfl), (fun _ _ _ => rfl), (fun _ _ _ => rfl), (fun _ _ _ => rfl), (fun _ _ _ => rfl), (fun _ _ _ => rfl), (fun _ _ _ => rfl), (fun _ _ _ => rfl), (fun _ _ _ => rfl), (fun _ _ _ => rfl), (fun h => absurd h (by decide)), trivial⟩
  · exact each_of (acyc_from _ 0 (by kernel_rfl))
  · exact (fun j hj => reach_of (by kernel_rfl) hj)
  · intro j o hj ho
    obtain rfl : j = 0 := by omega
    injection ho with ho
    subst ho
    exact ⟨⟨7, .data⟩, by simp, rfl, rfl⟩
  · intro k x i v w hi h
    have e7 : upd x i v 7 = x 7 := upd_ne _ _ (by omega)
    have e8 : upd x i v 8 = x 8 := upd_ne _ _ (by omega)
    simp only [e7, e8]
    exact h
  · refine each_of ⟨?_, ?_, ?_, ?_, ?_, ?_, ?_, (fun _ h => absurd h (by decide)), (fun _ h => absurd h (by decide)), ?_, ?_, ?_, (fun h => absurd h (by decide)), trivial⟩
    · intro _ _ k xf wq hT hd K hK
      (try dsimp only [fr14])
      go_simp
      have hz := hK.out _ rfl
      exact hz
    · intro _ _ k xf wq hT hd K hK
      (try dsimp only [fr14])
      go_simp
      have hz := hK.out _ rfl
      exact hz
    · intro _ _ k xf wq hT hd K hK
      have dq1 : xf 1 = .pointer (some ⟨gr, 0, none⟩) := hd ⟨1, .data⟩ (by simp) rfl
      (try dsimp only [fr14]); (try simp only [dq1])
      go_simp
      have hz := hK.out _ rfl
      dsimp only [fr14] at hz
      simp only [dq1] at hz
      exact hz
    · intro _ _ k xf wq hT hd K hK
      have dq2 : xf 2 = .pointer (some ⟨gr, 0, none⟩) := hd ⟨2, .data⟩ (by simp) rfl
      (try dsimp only [fr14]); (try simp only [dq2])
      go_simp
      have hz := hK.out _ rfl
      dsimp only [fr14] at hz
      simp only [dq2] at hz
      exact hz
    · intro _ _ k xf wq hT hd K hK
      have dq3 : xf 3 = .pointer (some ⟨gr, 1, none⟩) := hd ⟨3, .data⟩ (by simp) rfl
      (try dsimp only [fr14]); (try simp only [dq3])
      go_simp
      have hz := hK.out _ rfl
      dsimp only [fr14] at hz
      simp only [dq3] at hz
      exact hz
    · intro _ _ k xf wq hT hd K hK
      have dq4 : xf 4 = .pointer (some ⟨gr, 3, none⟩) := hd ⟨4, .data⟩ (by simp) rfl
      have hc2 := (TJ_.rd (by decide) H6.out hT).cells
      obtain ⟨_, hc2, hc3, hc4, _⟩ := hc2
      (try dsimp only [fr14]); (try simp only [dq4])
      go_simp
      have hz := hK.out _ rfl
      dsimp only [fr14] at hz
      simp only [dq4] at hz
      exact hz
    · intro _ _ k xf wq hT hd K hK
      obtain ⟨hd0, hd1, hd2, hd3, hd4, hd5, hd6⟩ := (TJ_.blk P6.out hT).c7
      (try dsimp only [fr14])
      go_simp
      have hz := hK.out _ rfl
      exact hz
    · intro _ _ k xf wq hT hd K hK
      have dq0 : xf 0 = .pointer (some ⟨gr, 0, none⟩) := hd ⟨0, .data⟩ (by simp) rfl
      (try dsimp only [fr14]); (try simp only [dq0])
      go_simp
      have hz := hK.out _ rfl
      dsimp only [fr14] at hz
      simp only [dq0] at hz
      exact hz
    · intro _ _ k xf wq hT hd K hK
      have dq9 : xf 9 = .pointer (some ⟨gr, 0, none⟩) := hd ⟨9, .data⟩ (by simp) rfl
      (try dsimp only [fr14]); (try simp only [dq9])
      go_simp
      have hz := hK.out _ rfl
      dsimp only [fr14] at hz
      simp only [dq9] at hz
      exact hz
    · intro _ _ k xf wq hT hd K hK
      have dq10 : xf 10 = .pointer (some ⟨gr, 1, none⟩) := hd ⟨10, .data⟩ (by simp) rfl
      (try dsimp only [fr14]); (try simp only [dq10])
      go_simp
      have hz := hK.out _ rfl
      dsimp only [fr14] at hz
      simp only [dq10] at hz
      exact hz
  · intro k o hk ho
    obtain rfl | rfl := (show k = 0 ∨ k = 1 by omega)
    · injection ho with ho
      subst ho
      intro xf wq hT hd K hK
      have hT : wq = w6.drew := hT
      subst hT
      have dq6 : xf 6 = .agg #[strV s.word.2.word.1, .int .i64 1, .int .i64 fa.1, .int .i64 fa.2.1, .int .i64 fb.1, .int .i64 fb.2.1, .int .i64 ft.2.1] := hd ⟨6, .data⟩ (by simp) rfl
      (try dsimp only [fr14]); (try simp only [dq6])
      go_simp
      have hz := hK.out (.slice (some ⟨w6.heap.size, 0, none⟩) 1 1) (w6.drew.alloc (.cells #[strV s.word.2.word.1, .int .i64 1, .int .i64 fa.1, .int .i64 fa.2.1, .int .i64 fb.1, .int .i64 fb.2.1, .int .i64 ft.2.1] 60)) trivial ⟨rfl, rfl⟩
      dsimp only [fr14] at hz
      simp only [dq6] at hz
      exact hz
    · injection ho with ho
      subst ho
      intro xf wq hT hd K hK
      obtain ⟨e7, ew⟩ : TJ_ 60 JtC 7 B gj w6 [strV s.word.2.word.1, .int .i64 1, .int .i64 fa.1, .int .i64 fa.2.1, .int .i64 fb.1, .int .i64 fb.2.1, .int .i64 ft.2.1] ⟨s.word.2.word.1, 1, fa.1, fa.2.1, fb.1, fb.2.1, ft.2.1⟩ n' s.L.joints 1 (xf 7) (xf 8) wq := hT
      subst ew
      have dq5 : xf 5 = .slice A' n' c' := hd ⟨5, .data⟩ (by simp) rfl
      obtain ⟨hl, xs, hown, hrow⟩ := JT6.out
      have hown : OwJ noW w6.drew B 60 7 (.slice A' n' c') n' xs := hown
      have hrow : RowC JtC 7 w6.drew s.L.joints xs := hrow
      have hlt := H6.out.lt
      have hBg := H6.out.hB
      have hds : w6.drew.heap.size = w6.heap.size := rfl
      rw [if_pos (show Region.wanted _ _ = true from rfl)]
      refine wp_append_J _ noW _ _ _ rfl B 60 ij (.agg #[.string ⟨#[]⟩, .int .i64 0, .int .i64 0, .int .i64 0, .int .i64 0, .int .i64 0, .int .i64 0]) 7 64 Tryz.underlying33 HIJ.out.1 HIJ.out.2.1 HIJ.out.2.2.1 HIJ.out.2.2.2 rfl (by omega) rfl (.slice A' n' c') n' xs dq5 (hown.belw ((Below.refl _ _).alloc (Nat.le_refl _) _)) ⟨w6.heap.size, 0, none⟩ 1 1 [strV s.word.2.word.1, .int .i64 1, .int .i64 fa.1, .int .i64 fa.2.1, .int .i64 fb.1, .int .i64 fb.2.1, .int .i64 ft.2.1] e7 rfl (World.news_of_block (heap_alloc_new w6.drew _)) (by simp [Value.oneCell']) rfl (by omega) (by have := HP.out.cnt; unfold maxLen; omega) (by have := HP.out.cnt; omega) (by simp; omega) ?_
      intro g5 cap w5 hown5 hgrow _
      have hp := row_push hl hown hrow (a := ⟨s.word.2.word.1, 1, fa.1, fa.2.1, fb.1, fb.2.1, ft.2.1⟩) (cs := [strV s.word.2.word.1, .int .i64 1, .int .i64 fa.1, .int .i64 fa.2.1, .int .i64 fb.1, .int .i64 fb.2.1, .int .i64 ft.2.1]) (show JtC w6.drew _ (⟨s.word.2.word.1, 1, fa.1, fa.2.1, fb.1, fb.2.1, ft.2.1⟩ : JointL) from HC.out) rfl hown5 hgrow (by omega) (fun _ _ _ _ x => x)
      exact hK.out _ _ trivial ⟨some ⟨g5, 0, none⟩, cap, rfl, hp.1, (P6.out.drew.alloc _).grown hgrow HNE.out, hp.2.1, ((Below.refl B w6).drew).trans hp.2.2⟩
  · intro o ho xf wq hT hr K hK
    injection ho with ho
    subst ho
    obtain ⟨A5, c5, e8, hrow, _, ht, hb⟩ : TJ_ 60 JtC 7 B gj w6 [strV s.word.2.word.1, .int .i64 1, .int .i64 fa.1, .int .i64 fa.2.1, .int .i64 fb.1, .int .i64 fb.2.1, .int .i64 ft.2.1] ⟨s.word.2.word.1, 1, fa.1, fa.2.1, fb.1, fb.2.1, ft.2.1⟩ n' s.L.joints 2 (xf 7) (xf 8) wq := hT
    have dq11 : xf 11 = .pointer (some ⟨gr, 3, none⟩) := hr 11 (by decide)
    have RQ := H6.out.other ht (by decide) hb
    obtain ⟨_, hc2, hc3, hc4, _, hf2, hf3, hf4⟩ := RQ.cells
    rw [e8] at hrow
    have RQ' := Lib.hid RQ
    have HROW := Lib.hid hrow
    clear RQ hrow hr
    (try dsimp only [fr14]); (try simp only [dq11, e8])
    go_simp
    refine hK.out _ _ ?_
    go_wp2_with fail
    go_end0
    have t1 := H1.out.tchR G6.out
    have t3 := RQ'.out.tchR (rg_set (rg_refl gr wq) 3 (.slice A5 (n' + 1) c5))
    have hst := HSC.out.trans (expect_stp ft.2.2 2 [59])
    have hL : (PS.expect ft.2.2 2 [59]).L = s.L := hst.2.2.2.trans HL1.out
    have htk := word_took (s := s) (by rw [HW1.out]; decide)
    have hst1 := hst.1
    have eW : W = PS.addJ (PS.expect ft.2.2 2 [59]) ⟨s.word.2.word.1, 1, fa.1, fa.2.1, fb.1, fb.2.1, ft.2.1⟩ := by
      rw [← HW.out]; unfold PS.item; rw [if_neg (by rw [HW1.out]; decide), if_neg (by rw [HW1.out]; decide), if_pos HW1.out]; unfold PS.joint
      simp only [HFA.out, HFB.out, HFT.out, if_true]
    subst eW
    refine ⟨rfl, ⟨A, n, c, A5, n' + 1, c5, A'', n'', c'', ⟨?_, ?_, ?_, ?_, ?_, ?_, ?_⟩⟩, ?_⟩
    · show RdP B _ gr (strV (PS.expect ft.2.2 2 [59]).L.name) _ _ _ _
      rw [hL]
      exact RQ'.out.put3 _ rfl rfl rfl
    · show RowT _ _ _ _ _ _ _ (PS.expect ft.2.2 2 [59]).L.bodies
      rw [hL]
      exact ((BD1.out.tch t1 (by decide) (fun _ _ x => x.tch t1 (by decide))).tch ht (by decide) (fun _ _ x => x.tch ht (by decide))).tch t3 (by decide) (fun _ _ x => x.tch t3 (by decide))
    · show RowT _ _ _ _ _ _ _ ((PS.expect ft.2.2 2 [59]).L.joints ++ [⟨s.word.2.word.1, 1, fa.1, fa.2.1, fb.1, fb.2.1, ft.2.1⟩])
      rw [hL]
      exact HROW.out.tch t3 (by decide) (fun _ _ x => x)
    · show RowT _ _ _ _ _ _ _ (PS.expect ft.2.2 2 [59]).L.drivers
      rw [hL]
      exact ((DR1.out.tch t1 (by decide) (fun _ _ x => x)).tch ht (by decide) (fun _ _ x => x)).tch t3 (by decide) (fun _ _ x => x)
    · show NmL (PS.expect ft.2.2 2 [59]).L.name
      rw [hL]
      exact HP.out.nm
    · show n + (n' + 1) + n'' + (PS.expect ft.2.2 2 [59]).toks.length ≤ _
      have h1 := HP.out.cnt
      omega
    · intro b hbm
      have hbm : b ∈ (PS.expect ft.2.2 2 [59]).L.bodies := hbm
      rw [hL] at hbm
      exact HP.out.pts b hbm
    · exact ((BW1.out.trans (rg_bel G6.out (by have := H1.out.lt; have := H1.out.hB; omega) H1.out.hB)).trans hb).setCell (p := ⟨gr, 3, none⟩) H1.out.hB _
theorem rd_item_driver (B : Nat) (w : World) (gr : Nat) (s : PS) (A : Option Addr) (n c : Nat) (A' : Option Addr) (n' c' : Nat) (A'' : Option Addr) (n'' c'' : Nat) (h : RdL B w gr s A n c A' n' c' A'' n'' c'') (hw1 : s.word.1 = wDriver) : Calls Tryz.prog 53 #[.pointer (some ⟨gr, 0, none⟩)] w (RetL_ B w gr s.item) := by
  have HW1 := Lib.hid hw1
  have hb0 : (s.word.1 == [98, 111, 100, 121]) = false := by rw [hw1]; decide
  have hb1 : (s.word.1 == [112, 105, 110]) = false := by rw [hw1]; decide
  have hb2 : (s.word.1 == [115, 108, 105, 100, 101]) = false := by rw [hw1]; decide
  have hb3 : (s.word.1 == [100, 114, 105, 118, 101, 114]) = true := by rw [hw1]; decide
  clear hw1
  obtain ⟨i0, hi0, hz0, hz1, hz2⟩ := info_parts info_bd
  obtain ⟨ij, hj0, hj1, hj2, hj3⟩ := info_parts info_jt
  obtain ⟨id, hd0, hd1, hd2, hd3⟩ := info_parts info_dr
  have HI := Lib.hid (And.intro hi0 (And.intro hz0 (And.intro hz1 hz2)))
  have HIJ := Lib.hid (And.intro hj0 (And.intro hj1 (And.intro hj2 hj3)))
  have HID := Lib.hid (And.intro hd0 (And.intro hd1 (And.intro hd2 hd3)))
  clear hi0 hz0 hz1 hz2 hj0 hj1 hj2 hj3 hd0 hd1 hd2 hd3
  have HL1 := Lib.hid (word_stp s).2.2.2
  have HL2 := Lib.hid ((word_stp s).trans (word_stp s.word.2)).2.2.2
  have HP := Lib.hid h
  obtain ⟨W, hW⟩ : ∃ W, s.item = W := ⟨_, rfl⟩
  rw [hW]
  have HW := Lib.hid hW
  clear h hW
  go_enter Tryz.func53, Tryz.ntmps53
  go_wp2_with fail
  (with_reducible refine (rd_word B _ gr (strV s.L.name) (.slice A n c) (.slice A' n' c') (.slice A'' n'' c'') s HP.out.rd).mono ?_); rintro e w1 ⟨rfl, h1, hg1⟩
  have H1 := Lib.hid h1
  have hgl := h1.lt
  have BW1 := Lib.hid (rg_bel hg1 (B := B) (by have := HP.out.rd.lt; have := HP.out.rd.hB; omega) HP.out.rd.hB)
  have t0 := HP.out.rd.tchR hg1
  have BD1 := Lib.hid (HP.out.bd.tch t0 (by decide) (fun _ _ x => x.tch t0 (by decide)))
  have JT1 := Lib.hid (HP.out.jt.tch t0 (by decide) (fun _ _ x => x))
  have DR1 := Lib.hid (HP.out.dr.tch t0 (by decide) (fun _ _ x => x))
  obtain ⟨Ak, nk, ck, hbk, _⟩ := h1.blk
  have HBk := Lib.hid hbk
  clear h1 hg1 t0 hbk
  have hn := toList_v s.word.1
  go_wp2_with fail
  (with_reducible refine (rd_word B _ gr (strV s.L.name) (.slice A n c) (.slice A' n' c') (.slice A'' n'' c'') s.word.2 H1.out).mono ?_); rintro e w2 ⟨rfl, h2, hg2⟩
  have H2 := Lib.hid h2
  have hlj := h2.lt
  have hw2 := hg2.size
  have HNM := Lib.hid (word_nm H1.out.txt)
  clear h2
  go_wp2_with fail
  (with_reducible refine (rd_named B _ gr (strV s.L.name) (.slice A' n' c') (.slice A'' n'' c'') A n c s.word.2.word.2 (H2.out.alloc _) (by rw [HL2.out]; exact H1.out.bodies BD1.out (rg_alloc hg2 _)) (by have := HP.out.cnt; omega) (-1)).mono ?_); rintro e w3 ⟨rfl, h3, hg3⟩
  have hsa := named_stp s.word.2.word.2 (-1)
  generalize hfa : s.word.2.word.2.named (-1) = fa at h3 hsa ⊢
  have HFA := Lib.hid hfa
  have HSA := Lib.hid ((word_stp s.word.2).trans hsa)
  clear hfa hsa
  have G3 := rg_trans (rg_alloc hg2 _) hg3
  have p3 : Blk w3 w2.heap.size 58 #[strV s.word.2.word.1, .int .i64 0] := rg_blk hg3 (Blk.new _ _ _) (by omega)
  have hl3 := p3.lt
  have H3 := Lib.hid h3
  generalize hgj : w2.heap.size = gj at hlj hw2 p3 hl3 ⊢
  have HNE := Lib.hid (own_lt DR1.out (g := gj) (by omega))
  clear hgj hg3 h3 hg2 H2
  obtain ⟨cj0, cj1⟩ := p3.c2
  obtain ⟨fj0, fj1⟩ := p3.f2
  have P3 := Lib.hid p3
  clear p3
  go_wp2_with fail
  clear cj0 cj1 fj0 fj1
  (with_reducible refine (rd_sign B _ gr (strV s.L.name) (.slice A n c) (.slice A' n' c') (.slice A'' n'' c'') fa.2 (H3.out.bel1 ((Below.refl _ w3).setCell (p := ⟨gj, 1, none⟩) hlj (.int .i64 fa.1))) [59]).mono ?_); rintro e w6 ⟨rfl, h6, hg6⟩
  have G6 := Lib.hid (rg_trans (rg_bel1 G3 ((Below.refl _ w3).setCell (p := ⟨gj, 1, none⟩) hw2 (.int .i64 fa.1))) hg6)
  have p6 := rg_blk hg6 (P3.out.set_ 1 (.int .i64 fa.1)) (by omega)
  have H6 := Lib.hid h6
  have P6 := Lib.hid p6
  have HC := Lib.hid (show DrC w6 [strV s.word.2.word.1, .int .i64 fa.1] ⟨s.word.2.word.1, fa.1⟩ from ⟨rfl, HNM.out⟩)
  have DR6 := Lib.hid (DR1.out.tch (H1.out.tchR G6.out) (by decide) (fun _ _ x => x))
  clear h6 hg6 p6
  go_wp2_with fail
  change Code.wp _ _ _ (fr19 _ _ _ _ _ _ _ _ _ _ _ _ _ _ _ _ _ _ _ _ _ _ _ _ _ _ _ _ _ _ _ _ _ _ _ _ _ _ _ _ _ _ _ _ _ _ _ _ _ _ _ _ _ _ _ _ _ _ _ _ _ _ _ _ _ _ _ _ _ _ _ _ _ _ _ _ _ _ _ _ _ (fun _ => undef)) _
  refine wp_region_stg (n := 12) (a := 7) (K := 2) (x0 := fun _ => undef) (R := fun ri => List.getD ((VE (.pointer (some ⟨gr, 0, none⟩))) :: (VE (.pointer (some ⟨gr, 0, none⟩))) :: (VE (.pointer (some ⟨gr, 0, none⟩))) :: (VE (.pointer (some ⟨gr, 1, none⟩))) :: (VE (.pointer (some ⟨gr, 4, none⟩))) :: (VE (.slice A'' n'' c'')) :: (VE (.agg #[strV s.word.2.word.1, .int .i64 fa.1])) :: VA :: VA :: (VE (.pointer (some ⟨gr, 0, none⟩))) :: (VE (.pointer (some ⟨gr, 1, none⟩))) :: (VE (.pointer (some ⟨gr, 4, none⟩))) :: []) ri VA) (T := fun k x wq => TJ_ 58 DrC 2 B gj w6 [strV s.word.2.word.1, .int .i64 fa.1] ⟨s.word.2.word.1, fa.1⟩ n'' s.L.drivers k (x 7) (x 8) wq) (by kernel_rfl) rfl ?_ ?_ ?_ (by decide) ?_ ?_ rfl ?_ ?_ ?_
  · exact each_of ⟨(fun _ _ _ => rfl), (fun _ _ _ => rfl), (fun _ _ _ => rfl), (fun _ _ _ => rfl), (fun _ _ _ => rfl), (fun _ _ _ => rfl), (fun _ _ _ => rfl), (fun _ _ _ => rfl), (fun _ _ _ => rfl), (fun _ _ _ => rfl), (fun _ _ _ => rfl), (fun _ _ _ => rfl), (fun h => absurd h (by decide)), trivial⟩
  · exact each_of (acyc_from _ 0 (by kernel_rfl))
  · exact (fun j hj => reach_of (by kernel_rfl) hj)
  · intro j o hj ho
    obtain rfl : j = 0 := by omega
    injection ho with ho
    subst ho
    exact ⟨⟨7, .data⟩, by simp, rfl, rfl⟩
  · intro k x i v w hi h
    have e7 : upd x i v 7 = x 7 := upd_ne _ _ (by omega)
    have e8 : upd x i v 8 = x 8 := upd_ne _ _ (by omega)
    simp only [e7, e8]
    exact h
  · refine each_of ⟨?_, ?_, ?_, ?_, ?_, ?_, ?_, (fun _ h => absurd h (by decide)), (fun _ h => absurd h (by decide)), ?_, ?_, ?_, (fun h => absurd h (by decide)), trivial⟩
    · intro _ _ k xf wq hT hd K hK
      (try dsimp only [fr19])
      go_simp
      have hz := hK.out _ rfl
      exact hz
    · intro _ _ k xf wq hT hd K hK
      (try dsimp only [fr19])
      go_simp
      have hz := hK.out _ rfl
      exact hz
    · intro _ _ k xf wq hT hd K hK
      have dq1 : xf 1 = .pointer (some ⟨gr, 0, none⟩) := hd ⟨1, .data⟩ (by simp) rfl
      (try dsimp only [fr19]); (try simp only [dq1])
      go_simp
      have hz := hK.out _ rfl
      dsimp only [fr19] at hz
      simp only [dq1] at hz
      exact hz
    · intro _ _ k xf wq hT hd K hK
      have dq2 : xf 2 = .pointer (some ⟨gr, 0, none⟩) := hd ⟨2, .data⟩ (by simp) rfl
      (try dsimp only [fr19]); (try simp only [dq2])
      go_simp
      have hz := hK.out _ rfl
      dsimp only [fr19] at hz
      simp only [dq2] at hz
      exact hz
    · intro _ _ k xf wq hT hd K hK
      have dq3 : xf 3 = .pointer (some ⟨gr, 1, none⟩) := hd ⟨3, .data⟩ (by simp) rfl
      (try dsimp only [fr19]); (try simp only [dq3])
      go_simp
      have hz := hK.out _ rfl
      dsimp only [fr19] at hz
      simp only [dq3] at hz
      exact hz
    · intro _ _ k xf wq hT hd K hK
      have dq4 : xf 4 = .pointer (some ⟨gr, 4, none⟩) := hd ⟨4, .data⟩ (by simp) rfl
      have hc2 := (TJ_.rd (by decide) H6.out hT).cells
      obtain ⟨_, hc2, hc3, hc4, _⟩ := hc2
      (try dsimp only [fr19]); (try simp only [dq4])
      go_simp
      have hz := hK.out _ rfl
      dsimp only [fr19] at hz
      simp only [dq4] at hz
      exact hz
    · intro _ _ k xf wq hT hd K hK
      obtain ⟨hd0, hd1⟩ := (TJ_.blk P6.out hT).c2
      (try dsimp only [fr19])
      go_simp
      have hz := hK.out _ rfl
      exact hz
    · intro _ _ k xf wq hT hd K hK
      have dq0 : xf 0 = .pointer (some ⟨gr, 0, none⟩) := hd ⟨0, .data⟩ (by simp) rfl
      (try dsimp only [fr19]); (try simp only [dq0])
      go_simp
      have hz := hK.out _ rfl
      dsimp only [fr19] at hz
      simp only [dq0] at hz
      exact hz
    · intro _ _ k xf wq hT hd K hK
      have dq9 : xf 9 = .pointer (some ⟨gr, 0, none⟩) := hd ⟨9, .data⟩ (by simp) rfl
      (try dsimp only [fr19]); (try simp only [dq9])
      go_simp
      have hz := hK.out _ rfl
      dsimp only [fr19] at hz
      simp only [dq9] at hz
      exact hz
    · intro _ _ k xf wq hT hd K hK
      have dq10 : xf 10 = .pointer (some ⟨gr, 1, none⟩) := hd ⟨10, .data⟩ (by simp) rfl
      (try dsimp only [fr19]); (try simp only [dq10])
      go_simp
      have hz := hK.out _ rfl
      dsimp only [fr19] at hz
      simp only [dq10] at hz
      exact hz
  · intro k o hk ho
    obtain rfl | rfl := (show k = 0 ∨ k = 1 by omega)
    · injection ho with ho
      subst ho
      intro xf wq hT hd K hK
      have hT : wq = w6.drew := hT
      subst hT
      have dq6 : xf 6 = .agg #[strV s.word.2.word.1, .int .i64 fa.1] := hd ⟨6, .data⟩ (by simp) rfl
      (try dsimp only [fr19]); (try simp only [dq6])
      go_simp
      have hz := hK.out (.slice (some ⟨w6.heap.size, 0, none⟩) 1 1) (w6.drew.alloc (.cells #[strV s.word.2.word.1, .int .i64 fa.1] 58)) trivial ⟨rfl, rfl⟩
      dsimp only [fr19] at hz
      simp only [dq6] at hz
      exact hz
    · injection ho with ho
      subst ho
      intro xf wq hT hd K hK
      obtain ⟨e7, ew⟩ : TJ_ 58 DrC 2 B gj w6 [strV s.word.2.word.1, .int .i64 fa.1] ⟨s.word.2.word.1, fa.1⟩ n'' s.L.drivers 1 (xf 7) (xf 8) wq := hT
      subst ew
      have dq5 : xf 5 = .slice A'' n'' c'' := hd ⟨5, .data⟩ (by simp) rfl
      obtain ⟨hl, xs, hown, hrow⟩ := DR6.out
      have hown : OwJ noW w6.drew B 58 2 (.slice A'' n'' c'') n'' xs := hown
      have hrow : RowC DrC 2 w6.drew s.L.drivers xs := hrow
      have hlt := H6.out.lt
      have hBg := H6.out.hB
      have hds : w6.drew.heap.size = w6.heap.size := rfl
      rw [if_pos (show Region.wanted _ _ = true from rfl)]
      refine wp_append_J _ noW _ _ _ rfl B 58 id (.agg #[.string ⟨#[]⟩, .int .i64 0]) 2 24 Tryz.underlying34 HID.out.1 HID.out.2.1 HID.out.2.2.1 HID.out.2.2.2 rfl (by omega) rfl (.slice A'' n'' c'') n'' xs dq5 (hown.belw ((Below.refl _ _).alloc (Nat.le_refl _) _)) ⟨w6.heap.size, 0, none⟩ 1 1 [strV s.word.2.word.1, .int .i64 fa.1] e7 rfl (World.news_of_block (heap_alloc_new w6.drew _)) (by simp [Value.oneCell']) rfl (by omega) (by have := HP.out.cnt; unfold maxLen; omega) (by have := HP.out.cnt; omega) (by simp; omega) ?_
      intro g5 cap w5 hown5 hgrow _
      have hp := row_push hl hown hrow (a := ⟨s.word.2.word.1, fa.1⟩) (cs := [strV s.word.2.word.1, .int .i64 fa.1]) (show DrC w6.drew _ (⟨s.word.2.word.1, fa.1⟩ : DriverL) from HC.out) rfl hown5 hgrow (by omega) (fun _ _ _ _ x => x)
      exact hK.out _ _ trivial ⟨some ⟨g5, 0, none⟩, cap, rfl, hp.1, (P6.out.drew.alloc _).grown hgrow HNE.out, hp.2.1, ((Below.refl B w6).drew).trans hp.2.2⟩
  · intro o ho xf wq hT hr K hK
    injection ho with ho
    subst ho
    obtain ⟨A5, c5, e8, hrow, _, ht, hb⟩ : TJ_ 58 DrC 2 B gj w6 [strV s.word.2.word.1, .int .i64 fa.1] ⟨s.word.2.word.1, fa.1⟩ n'' s.L.drivers 2 (xf 7) (xf 8) wq := hT
    have dq11 : xf 11 = .pointer (some ⟨gr, 4, none⟩) := hr 11 (by decide)
    have RQ := H6.out.other ht (by decide) hb
    obtain ⟨_, hc2, hc3, hc4, _, hf2, hf3, hf4⟩ := RQ.cells
    rw [e8] at hrow
    have RQ' := Lib.hid RQ
    have HROW := Lib.hid hrow
    clear RQ hrow hr
    (try dsimp only [fr19]); (try simp only [dq11, e8])
    go_simp
    refine hK.out _ _ ?_
    go_wp2_with fail
    go_end0
    have t1 := H1.out.tchR G6.out
    have t3 := RQ'.out.tchR (rg_set (rg_refl gr wq) 4 (.slice A5 (n'' + 1) c5))
    have hst := HSA.out.trans (expect_stp fa.2 2 [59])
    have hL : (PS.expect fa.2 2 [59]).L = s.L := hst.2.2.2.trans HL1.out
    have htk := word_took (s := s) (by rw [HW1.out]; decide)
    have hst1 := hst.1
    have eW : W = PS.addD (PS.expect fa.2 2 [59]) ⟨s.word.2.word.1, fa.1⟩ := by
      rw [← HW.out]; unfold PS.item; rw [if_neg (by rw [HW1.out]; decide), if_neg (by rw [HW1.out]; decide), if_neg (by rw [HW1.out]; decide), if_pos HW1.out]; unfold PS.driver
      simp only [HFA.out]
    subst eW
    refine ⟨rfl, ⟨A, n, c, A', n', c', A5, n'' + 1, c5, ⟨?_, ?_, ?_, ?_, ?_, ?_, ?_⟩⟩, ?_⟩
    · show RdP B _ gr (strV (PS.expect fa.2 2 [59]).L.name) _ _ _ _
      rw [hL]
      exact RQ'.out.put4 _ rfl rfl rfl
    · show RowT _ _ _ _ _ _ _ (PS.expect fa.2 2 [59]).L.bodies
      rw [hL]
      exact ((BD1.out.tch t1 (by decide) (fun _ _ x => x.tch t1 (by decide))).tch ht (by decide) (fun _ _ x => x.tch ht (by decide))).tch t3 (by decide) (fun _ _ x => x.tch t3 (by decide))
    · show RowT _ _ _ _ _ _ _ (PS.expect fa.2 2 [59]).L.joints
      rw [hL]
      exact ((JT1.out.tch t1 (by decide) (fun _ _ x => x)).tch ht (by decide) (fun _ _ x => x)).tch t3 (by decide) (fun _ _ x => x)
    · show RowT _ _ _ _ _ _ _ ((PS.expect fa.2 2 [59]).L.drivers ++ [⟨s.word.2.word.1, fa.1⟩])
      rw [hL]
      exact HROW.out.tch t3 (by decide) (fun _ _ x => x)
    · show NmL (PS.expect fa.2 2 [59]).L.name
      rw [hL]
      exact HP.out.nm
    · show n + n' + (n'' + 1) + (PS.expect fa.2 2 [59]).toks.length ≤ _
      have h1 := HP.out.cnt
      omega
    · intro b hbm
      have hbm : b ∈ (PS.expect fa.2 2 [59]).L.bodies := hbm
      rw [hL] at hbm
      exact HP.out.pts b hbm
    · exact ((BW1.out.trans (rg_bel G6.out (by have := H1.out.lt; have := H1.out.hB; omega) H1.out.hB)).trans hb).setCell (p := ⟨gr, 4, none⟩) H1.out.hB _
theorem rd_item_else (B : Nat) (w : World) (gr : Nat) (s : PS) (A : Option Addr) (n c : Nat) (A' : Option Addr) (n' c' : Nat) (A'' : Option Addr) (n'' c'' : Nat) (h : RdL B w gr s A n c A' n' c' A'' n'' c'') (k1 : s.word.1 ≠ wBody) (k2 : s.word.1 ≠ wPin) (k3 : s.word.1 ≠ wSlide) (k4 : s.word.1 ≠ wDriver) : Calls Tryz.prog 53 #[.pointer (some ⟨gr, 0, none⟩)] w (RetL_ B w gr s.item) := by
 have hb0 : (s.word.1 == [98, 111, 100, 121]) = false := beq_eq_false_iff_ne.2 k1
 have hb1 : (s.word.1 == [112, 105, 110]) = false := beq_eq_false_iff_ne.2 k2
 have hb2 : (s.word.1 == [115, 108, 105, 100, 101]) = false := beq_eq_false_iff_ne.2 k3
 have hb3 : (s.word.1 == [100, 114, 105, 118, 101, 114]) = false := beq_eq_false_iff_ne.2 k4
 have HK := Lib.hid (show s.item = s.word.2.fail 2 by unfold PS.item; rw [if_neg k1, if_neg k2, if_neg k3, if_neg k4])
 clear k1 k2 k3 k4
 obtain ⟨i0, hi0, hz0, hz1, hz2⟩ := info_parts info_bd
 obtain ⟨ij, hj0, hj1, hj2, hj3⟩ := info_parts info_jt
 obtain ⟨id, hd0, hd1, hd2, hd3⟩ := info_parts info_dr
 have HI := Lib.hid (And.intro hi0 (And.intro hz0 (And.intro hz1 hz2)))
 have HIJ := Lib.hid (And.intro hj0 (And.intro hj1 (And.intro hj2 hj3)))
 have HID := Lib.hid (And.intro hd0 (And.intro hd1 (And.intro hd2 hd3)))
 clear hi0 hz0 hz1 hz2 hj0 hj1 hj2 hj3 hd0 hd1 hd2 hd3
 have HL1 := Lib.hid (word_stp s).2.2.2
 have HL2 := Lib.hid ((word_stp s).trans (word_stp s.word.2)).2.2.2
 have HP := Lib.hid h
 obtain ⟨W, hW⟩ : ∃ W, s.item = W := ⟨_, rfl⟩
 rw [hW]
 have HW := Lib.hid hW
 clear h hW
 go_enter Tryz.func53, Tryz.ntmps53
 go_wp2_with fail
 (with_reducible refine (rd_word B _ gr (strV s.L.name) (.slice A n c) (.slice A' n' c') (.slice A'' n'' c'') s HP.out.rd).mono ?_); rintro e w1 ⟨rfl, h1, hg1⟩
 have H1 := Lib.hid h1
 have hgl := h1.lt
 have BW1 := Lib.hid (rg_bel hg1 (B := B) (by have := HP.out.rd.lt; have := HP.out.rd.hB; omega) HP.out.rd.hB)
 have t0 := HP.out.rd.tchR hg1
 have BD1 := Lib.hid (HP.out.bd.tch t0 (by decide) (fun _ _ x => x.tch t0 (by decide)))
 have JT1 := Lib.hid (HP.out.jt.tch t0 (by decide) (fun _ _ x => x))
 have DR1 := Lib.hid (HP.out.dr.tch t0 (by decide) (fun _ _ x => x))
 obtain ⟨Ak, nk, ck, hbk, _⟩ := h1.blk
 have HBk := Lib.hid hbk
 clear h1 hg1 t0 hbk
 have hn := toList_v s.word.1
 have HB1 := HBk.out
 clear HBk
 obtain ⟨Ak, nk, ck, hbk, htk⟩ := H1.out.blk
 have HBk := Lib.hid hbk
 have HTk := Lib.hid htk
 clear hbk htk HB1
 go_wp2_with fail
 (with_reducible refine (rd_fail _ gr (.slice Ak nk ck) (strV s.L.name) (.slice A n c) (.slice A' n' c') (.slice A'' n'' c'') s.word.2.x 2 HBk.out (by decide)).mono ?_); rintro e w2 ⟨rfl, hb2, g2⟩
 have HB2 := Lib.hid hb2
 clear hb2
 go_wp2_with fail
 go_end0
 have t1 := H1.out.tchR g2
 have eW : W = s.word.2.fail 2 := by rw [← HW.out, HK.out]
 have R2 : RdP B w2 gr (strV s.L.name) (.slice A n c) (.slice A' n' c') (.slice A'' n'' c'') (s.word.2.fail 2) := by
  have hb2 := HB2.out
  unfold PS.fail
  split
  ·rename_i hx
   rw [if_pos hx] at hb2
   exact ⟨⟨Ak, nk, ck, hb2, HTk.out.rg H1.out.hB g2⟩, H1.out.mx.rg H1.out.hB g2, H1.out.hB, H1.out.len, H1.out.txt, H1.out.hw⟩
  ·rename_i hx
   rw [if_neg hx] at hb2
   exact ⟨⟨Ak, nk, ck, hb2, HTk.out.rg H1.out.hB g2⟩, H1.out.mx.rg H1.out.hB g2, H1.out.hB, H1.out.len, H1.out.txt, H1.out.hw⟩
 have hst := (word_stp s).trans (fail_stp s.word.2 2 (by decide) 0)
 have hL : (s.word.2.fail 2).L = s.L := hst.2.2.2
 subst eW
 refine ⟨rfl, ⟨A, n, c, A', n', c', A'', n'', c'', ⟨by rw [hL]; exact R2, ?_, ?_, ?_, by rw [hL]; exact HP.out.nm, ?_, by rw [hL]; exact HP.out.pts⟩⟩, ?_⟩
 ·rw [hL]; exact BD1.out.tch t1 (by decide) (fun _ _ x => x.tch t1 (by decide))
 ·rw [hL]; exact JT1.out.tch t1 (by decide) (fun _ _ x => x)
 ·rw [hL]; exact DR1.out.tch t1 (by decide) (fun _ _ x => x)
 ·have h1 := HP.out.cnt
  have h2 := hst.1
  omega
 ·exact BW1.out.trans (rg_bel g2 (by have := H1.out.lt; have := H1.out.hB; omega) H1.out.hB)
theorem rd_item (B : Nat) (w : World) (gr : Nat) (s : PS) (A : Option Addr) (n c : Nat) (A' : Option Addr) (n' c' : Nat) (A'' : Option Addr) (n'' c'' : Nat) (h : RdL B w gr s A n c A' n' c' A'' n'' c'') : Calls Tryz.prog 53 #[.pointer (some ⟨gr, 0, none⟩)] w (RetL_ B w gr s.item) := by
  by_cases h1 : s.word.1 = wBody
  · exact rd_item_body B w gr s A n c A' n' c' A'' n'' c'' h h1
  · by_cases h2 : s.word.1 = wPin
    · exact rd_item_pin B w gr s A n c A' n' c' A'' n'' c'' h h2
    · by_cases h3 : s.word.1 = wSlide
      · exact rd_item_slide B w gr s A n c A' n' c' A'' n'' c'' h h3
      · by_cases h4 : s.word.1 = wDriver
        · exact rd_item_driver B w gr s A n c A' n' c' A'' n'' c'' h h4
        · exact rd_item_else B w gr s A n c A' n' c' A'' n'' c'' h h1 h2 h3 h4
end Go.Proofs.YtoiijifnfdgfpaaGreatDoor

/- Laws of tokens: plain. -/
namespace Go.Proofs.YtoiijifnfdgfpaaGreatDoor
open Go Go.RowKit Bn
theorem toks_sum : ∀ (f : Nat) (r : List UInt8) (line col : Nat) (l : List Tkn), toks f r line col = .ok l → (l.map fun t => t.text.length).sum ≤ r.length ∧ ∀ t ∈ l, 0 < t.text.length := by
  intro f
  induction f with
  | zero => intro r line col l h; unfold toks at h; injection h with h; subst h; simp
  | succ f ih =>
    intro r line col l h
    cases r with
    | nil => unfold toks at h; injection h with h; subst h; simp
    | cons c s =>
      unfold toks at h
      split at h
      · have := ih _ _ _ _ h
        refine ⟨?_, this.2⟩
        rw [List.length_cons]; omega
      · split at h
        · have := ih _ _ _ _ h
          refine ⟨?_, this.2⟩
          rw [List.length_cons]; omega
        · split at h
          · have := ih _ _ _ _ h
            refine ⟨?_, this.2⟩
            rw [List.length_drop] at this; omega
          · split at h
            · cases h
            · rename_i k n hf
              have hn := firstT_ok hf
              cases hx : toks f ((c :: s).drop n) line (col + n) with
              | err x => rw [hx] at h; cases h
              | ok l' =>
                rw [hx] at h
                injection h with h
                subst h
                have := ih _ _ _ _ hx
                have hl : ((c :: s).take n).length = n := by rw [List.length_take]; omega
                rw [List.length_drop] at this
                refine ⟨?_, fun t ht => ?_⟩
                · simp only [List.map_cons, List.sum_cons, hl]; omega
                · rcases List.mem_cons.1 ht with e | e
                  · subst e; show 0 < ((c :: s).take n).length; omega
                  · exact this.2 t e
theorem len_le_sum : ∀ {l : List Tkn}, (∀ t ∈ l, 0 < t.text.length) → l.length ≤ (l.map fun t => t.text.length).sum
  | [], _ => by simp
  | t :: l, h => by
    have h1 := len_le_sum (l := l) (fun x hx => h x (by simp [hx]))
    have h2 := h t (by simp)
    simp only [List.length_cons, List.map_cons, List.sum_cons]; omega
theorem tokens_len {s : List UInt8} {l : List Tkn} (h : tokens s = .ok l) : l.length ≤ s.length ∧ (l.map fun t => t.text.length).sum ≤ s.length := by
  obtain ⟨h1, h2⟩ := toks_sum _ _ _ _ _ h
  have := len_le_sum h2
  omega
theorem SplitOut.len {s : List UInt8} {x : Int} {l : List Tkn} (h : SplitOut s x l) : l.length ≤ 65536 := by
  rcases h with ⟨_, _, rfl⟩ | ⟨h, ht, _⟩ | ⟨_, _, _, _, rfl⟩
  · simp
  · have := (tokens_len ht).1; omega
  · simp
theorem joinT_len : ∀ (l : List Tkn), (joinT (l.map Tkn.text)).length ≤ (l.map fun t => t.text.length).sum + l.length
  | [] => by simp [joinT]
  | [t] => by simp [joinT]
  | t :: u :: r => by
    have h := joinT_len (u :: r)
    show (t.text ++ 32 :: joinT ((u :: r).map Tkn.text)).length ≤ _
    simp only [List.length_append, List.length_cons, List.map_cons, List.sum_cons] at h ⊢
    omega
def joinL : List Tkn → List (Nat × List UInt8 × List UInt8)
  | [] => []
  | [t] => [(t.kind, t.text, [])]
  | t :: u :: r => (t.kind, t.text, [32]) :: joinL (u :: r)
theorem joinL_glue : ∀ (l : List Tkn), glue (joinL l) = joinT (l.map Tkn.text)
  | [] => rfl
  | [t] => by simp [joinL, glue, joinT]
  | t :: u :: r => by
    have h := joinL_glue (u :: r)
    show t.text ++ ([32] ++ glue (joinL (u :: r))) = t.text ++ 32 :: joinT ((u :: r).map Tkn.text)
    rw [h]; rfl
theorem joinL_map : ∀ (l : List Tkn), (joinL l).map (fun p => (p.1, p.2.1)) = l.map fun t => (t.kind, t.text)
  | [] => rfl
  | [t] => rfl
  | t :: u :: r => by
    have h := joinL_map (u :: r)
    show (t.kind, t.text) :: (joinL (u :: r)).map _ = _
    rw [h]; rfl
theorem joinL_mem : ∀ {l : List Tkn} {p : Nat × List UInt8 × List UInt8}, p ∈ joinL l → (∃ t ∈ l, p.1 = t.kind ∧ p.2.1 = t.text) ∧ (p.2.2 = [] ∨ p.2.2 = [32])
  | [], _, h => by cases h
  | [t], p, h => by
    have : p = (t.kind, t.text, []) := by simpa [joinL] using h
    subst this
    exact ⟨⟨t, by simp, rfl, rfl⟩, .inl rfl⟩
  | t :: u :: r, p, h => by
    rcases List.mem_cons.1 h with e | e
    · subst e; exact ⟨⟨t, by simp, rfl, rfl⟩, .inr rfl⟩
    · obtain ⟨⟨x, hx, h1⟩, h2⟩ := joinL_mem (l := u :: r) e
      exact ⟨⟨x, List.mem_cons_of_mem _ hx, h1⟩, h2⟩
theorem joinL_inner : ∀ {l : List Tkn} {i : Nat} {p : Nat × List UInt8 × List UInt8}, (joinL l)[i]? = some p → i + 1 < (joinL l).length → p.2.2 = [32]
  | [], i, p, h, hl => by simp [joinL] at hl
  | [t], i, p, h, hl => by simp [joinL] at hl
  | t :: u :: r, 0, p, h, hl => by
    have : (t.kind, t.text, [32]) = p := by simpa [joinL] using h
    subst this; rfl
  | t :: u :: r, i + 1, p, h, hl => joinL_inner (l := u :: r) (i := i) (by simpa [joinL] using h) (by simp only [joinL, List.length_cons] at hl ⊢; omega)
theorem shape_ok {x : Toks} {L : List (Nat × List UInt8)} (h : Bn.shape x = some L) : ∃ m, x = .ok m ∧ m.map (fun t => (t.kind, t.text)) = L := by
  cases x with
  | ok m => exact ⟨m, rfl, Option.some.inj h⟩
  | err n => cases h
theorem join_again {s : List UInt8} {l : List Tkn} (h : tokens s = .ok l) (hl : s.length ≤ 3000) : ∃ m, SplitOut (joinT (l.map Tkn.text)) 0 m ∧ l.map (fun t => (t.kind, t.text)) = m.map fun t => (t.kind, t.text) := by
  have hg := toks_good _ _ _ _ _ h
  have hs := glue_tk (L := joinL l) (fun p hp => by
    obtain ⟨⟨t, ht, e1, e2⟩, e3⟩ := joinL_mem hp
    refine ⟨by rw [e1, e2]; exact hg t ht, ?_⟩
    rcases e3 with e | e <;> rw [e]
    · exact Skip.nil
    · exact Skip.blank (by decide) Skip.nil) (fun i p hp hi => ⟨32, [], joinL_inner hp hi, by decide⟩) (fun p hp => by
    obtain ⟨_, e3⟩ := joinL_mem (List.mem_of_getLast? hp)
    rcases e3 with e | e
    · exact .inl e
    · exact .inr ⟨32, [], e, by decide⟩) 1 1
  rw [joinL_glue, joinL_map] at hs
  obtain ⟨m, hm, he⟩ := shape_ok hs
  have h1 := joinT_len l
  have h2 := tokens_len h
  exact ⟨m, .ok (by omega) hm rfl, he.symm⟩
theorem glue_app : ∀ (L M : List (Nat × List UInt8 × List UInt8)), glue (L ++ M) = glue L ++ glue M
  | [], M => rfl
  | (k, x, s) :: r, M => by
    show x ++ (s ++ glue (r ++ M)) = (x ++ (s ++ glue r)) ++ glue M
    rw [glue_app r M]; simp
end Go.Proofs.YtoiijifnfdgfpaaGreatDoor

/- Walks: parse.Linkage. -/
namespace Go.Proofs.YtoiijifnfdgfpaaGreatDoor
open Go Go.RowKit Bn
attribute [local go_sem ↓] Go.wp_at_zero Go.wp_at_succ
def RetLkE (w : World) (v : Value) (L : LinkL) (e : Ending) (w' : World) : Prop :=
  ∃ A n c A' n' c' A'' n'' c'', e = .returned (.tuple #[.agg #[strV L.name, .slice A n c, .slice A' n' c', .slice A'' n'' c''], v]) ∧ LkS 130 w' A n c A' n' c' A'' n'' c'' L ∧ Below w.heap.size w w'
theorem sum_mem {l : List Tkn} {t : Tkn} (h : t ∈ l) : t.text.length ≤ (l.map fun t => t.text.length).sum := by
  induction l with
  | nil => cases h
  | cons a l ih =>
    rw [List.map_cons, List.sum_cons]
    rcases List.mem_cons.1 h with rfl | h
    · omega
    · have := ih h; omega
theorem split_txt {s : List UInt8} {l : List Tkn} (h : SplitOut s 0 l) : ∀ t ∈ l, NmL t.text := by
  intro t ht
  rcases h with ⟨_, h, _⟩ | ⟨h, hk, _⟩ | ⟨_, _, _, _, rfl⟩
  · cases h
  · have h1 := (tokens_len hk).2
    have h2 := sum_mem ht
    show t.text.length < _
    omega
  · cases ht
theorem lk_zero (w : World) (k : Nat) : LkS k w none 0 0 none 0 0 none 0 0 L0 := ⟨by show ([] : List UInt8).length < _; decide, ⟨rfl, Nat.le_refl _, fun h => absurd h (by omega)⟩, ⟨rfl, Nat.le_refl _, fun h => absurd h (by omega)⟩, ⟨rfl, Nat.le_refl _, fun h => absurd h (by omega)⟩⟩
theorem rd_start {w : World} {A : Option Addr} {n c : Nat} {s : List UInt8} {l : List Tkn} (hs : SplitOut s 0 l) (ht : TkS w A n c l) (hmx : Mx w) (L : LinkL) (hL : L.name = [] ∧ L.bodies = [] ∧ L.joints = [] ∧ L.drivers = []) : RdL w.heap.size (w.alloc (.cells #[.slice A n c, .string ⟨#[]⟩, .slice none 0 0, .slice none 0 0, .slice none 0 0, .nilIface] 100)) w.heap.size ⟨l, L, 0⟩ none 0 0 none 0 0 none 0 0 := by
  obtain ⟨h1, h2, h3, h4⟩ := hL
  have hb : Below w.heap.size w (w.alloc (.cells #[.slice A n c, .string ⟨#[]⟩, .slice none 0 0, .slice none 0 0, .slice none 0 0, .nilIface] 100)) := (Below.refl _ _).alloc (Nat.le_refl _) _
  refine ⟨⟨⟨A, n, c, ?_, (TkA.of_tks ht).belB hb⟩, (MxA.of_mx hmx).belB hb, Nat.le_refl _, hs.len, split_txt hs, by rw [h1]; exact ⟨rfl, rfl, rfl, rfl⟩⟩, by rw [h2]; exact RowT.nil, by rw [h3]; exact RowT.nil, by rw [h4]; exact RowT.nil, by rw [h1]; show ([] : List UInt8).length < _; decide, ?_, by rw [h2]; intro b hb; cases hb⟩
  · rw [h1]; exact Blk.new _ _ _
  · have := hs.len
    show 0 + 0 + 0 + l.length ≤ _
    omega
theorem RdL.lk {B : Nat} {w : World} {gr : Nat} {s : PS} {A A' A'' : Option Addr} {n c n' c' n'' c'' : Nat} (h : RdL B w gr s A n c A' n' c' A'' n'' c'') : LkS 130 w A n c A' n' c' A'' n'' c'' s.L := ⟨h.nm, h.bd.bds, h.jt.jts, h.dr.drs⟩
theorem RdL.call {B : Nat} {w w' : World} {gr : Nat} {s s' : PS} {A A' A'' : Option Addr} {n c n' c' n'' c'' : Nat} (h : RdL B w gr s A n c A' n' c' A'' n'' c'') (h' : RdP B w' gr (strV s.L.name) (.slice A n c) (.slice A' n' c') (.slice A'' n'' c'') s') (k : w.grownBy w' (some gr)) (hL : s'.L = s.L) (hl : s'.toks.length ≤ s.toks.length) : RdL B w' gr s' A n c A' n' c' A'' n'' c'' := by
  have t := h.rd.tchR k
  exact ⟨by rw [hL]; exact h', by rw [hL]; exact h.bd.tch t (by decide) (fun _ _ x => x.tch t (by decide)), by rw [hL]; exact h.jt.tch t (by decide) (fun _ _ x => x), by rw [hL]; exact h.dr.tch t (by decide) (fun _ _ x => x), by rw [hL]; exact h.nm, by have := h.cnt; omega, by rw [hL]; exact h.pts⟩
theorem RdL.below {B : Nat} {w w' : World} {gr : Nat} {s : PS} {A A' A'' : Option Addr} {n c n' c' n'' c'' : Nat} (h : RdL B w gr s A n c A' n' c' A'' n'' c'') (k : w.grownBy w' (some gr)) : Below B w w' := rg_bel k (by have := h.rd.lt; have := h.rd.hB; omega) h.rd.hB
theorem RdL.name {B : Nat} {w : World} {gr : Nat} {s : PS} {A A' A'' : Option Addr} {n c n' c' n'' c'' : Nat} (h : RdL B w gr s A n c A' n' c' A'' n'' c'') (nm : List UInt8) (hn : NmL nm) : RdL B (w.setCell ⟨gr, 1, none⟩ (strV nm)) gr { s with L := { s.L with name := nm } } A n c A' n' c' A'' n'' c'' := by
  have t := h.rd.tchR (rg_set (rg_refl gr w) 1 (strV nm))
  exact ⟨h.rd.put1 _ rfl rfl rfl, h.bd.tch t (by decide) (fun _ _ x => x.tch t (by decide)), h.jt.tch t (by decide) (fun _ _ x => x), h.dr.tch t (by decide) (fun _ _ x => x), hn, h.cnt, h.pts⟩
theorem RdL.belw {B : Nat} {w w' : World} {gr : Nat} {s : PS} {A A' A'' : Option Addr} {n c n' c' n'' c'' : Nat} (h : RdL B w gr s A n c A' n' c' A'' n'' c'') (k : Below w.heap.size w w') : RdL B w' gr s A n c A' n' c' A'' n'' c'' := by
  have t : Tch (fun _ => false) w w' := Tch.below k
  exact ⟨h.rd.belw k, h.bd.tch t rfl (fun _ _ x => x.tch t rfl), h.jt.tch t rfl (fun _ _ x => x), h.dr.tch t rfl (fun _ _ x => x), h.nm, h.cnt, h.pts⟩
theorem RdL.lkA {B : Nat} {w w' : World} {gr : Nat} {s : PS} {A A' A'' : Option Addr} {n c n' c' n'' c'' : Nat} (h : RdL B w gr s A n c A' n' c' A'' n'' c'') (t : Tch (TOne 36) w w') : LkS 130 w' A n c A' n' c' A'' n'' c'' s.L :=
  ⟨h.nm, (h.bd.tch t (by decide) (fun _ _ x => x.tch t (by decide))).bds, (h.jt.tch t (by decide) (fun _ _ x => x)).jts, (h.dr.tch t (by decide) (fun _ _ x => x)).drs⟩
theorem tch4 {w : World} {g : Nat} {t : TypeId} {a0 a1 a2 a3 : Value} (z : Blk w g t #[a0, a1, a2, a3]) (hz : noW a0 = true ∧ noW a1 = true ∧ noW a2 = true ∧ noW a3 = true) (u0 u1 u2 u3 : Value) : Tch (TOne t) w ((((w.setCell ⟨g, 0, none⟩ u0).setCell ⟨g, 1, none⟩ u1).setCell ⟨g, 2, none⟩ u2).setCell ⟨g, 3, none⟩ u3) :=
  Tch.of_ne (by simp [World.setCell]) z (by simp [TOne]) (by simp [hz]) fun g' _ hne => by
    rw [Below.heap_setCell _ _ _ _ hne, Below.heap_setCell _ _ _ _ hne, Below.heap_setCell _ _ _ _ hne, Below.heap_setCell _ _ _ _ hne]
theorem bel4 {B g : Nat} {a w : World} (h : Below B a w) (hB : B ≤ g) (u0 u1 u2 u3 : Value) : Below B a ((((w.setCell ⟨g, 0, none⟩ u0).setCell ⟨g, 1, none⟩ u1).setCell ⟨g, 2, none⟩ u2).setCell ⟨g, 3, none⟩ u3) :=
  (((h.setCell (p := ⟨g, 0, none⟩) hB u0).setCell (p := ⟨g, 1, none⟩) hB u1).setCell (p := ⟨g, 2, none⟩) hB u2).setCell (p := ⟨g, 3, none⟩) hB u3
theorem p_linkage_1 (w : World) (s : List UInt8) (x : Int) (l : List Tkn) (hs : SplitOut s x l) (hx : x ≠ 0) : Calls Tryz.prog 18 #[strV s] w (RetLkE w (errV x) L0) := by
 have HS := Lib.hid hs
 have HX := Lib.hid hx
 rw [eVp hx]
 clear hs hx
 go_enter Tryz.func18, Tryz.ntmps18
 go_wp2_with fail
 (with_reducible refine (t_split_x _ s x l HS.out).mono ?_); rintro e w1 ⟨A, n, c, rfl, _, hb1⟩
 rw [eVp HX.out]
 have z1 : Blk w1 w.heap.size 36 #[.string ⟨#[]⟩, .slice none 0 0, .slice none 0 0, .slice none 0 0] := (blkAt _ _ _ (by simp)).below hb1 (by simp)
 obtain ⟨cz0, cz1, cz2, cz3⟩ := z1.c4
 obtain ⟨fz0, fz1, fz2, fz3⟩ := z1.f4
 have q1 := ((Below.refl _ _).alloc (Nat.le_refl _) _).trans (hb1.mono (by simp))
 clear hb1 z1
 go_wp2_with fail
 refine bodyPost_ret (v := .tuple #[.agg #[.string ⟨#[]⟩, .slice none 0 0, .slice none 0 0, .slice none 0 0], .iface 63 (.int .i64 x)]) (by simp [results, Tryz.results18, go_sem, *] <;> first | rfl | exact ⟨rfl, rfl⟩) rfl ?_
 exact ⟨_, _, _, _, _, _, _, _, _, rfl, lk_zero _ _, (((q1.setCell (p := ⟨w.heap.size, 0, none⟩) (Nat.le_refl _) _).setCell (p := ⟨w.heap.size, 1, none⟩) (Nat.le_refl _) _).setCell (p := ⟨w.heap.size, 2, none⟩) (Nat.le_refl _) _).setCell (p := ⟨w.heap.size, 3, none⟩) (Nat.le_refl _) _⟩
theorem p_linkage_2 (w : World) (s : List UInt8) (l : List Tkn) (hmx : Mx w) (hs : SplitOut s 0 l) (x : Int) (L : LinkL) (h : ((readL l).x ≠ 0 ∧ x = (readL l).x ∧ L = L0) ∨ ((readL l).x = 0 ∧ lkErr (readL l).L ≠ 0 ∧ x = lkErr (readL l).L ∧ L = L0) ∨ ((readL l).x = 0 ∧ lkErr (readL l).L = 0 ∧ x = 0 ∧ L = (readL l).L)) : Calls Tryz.prog 18 #[strV s] w (RetLkE w (errV x) L) := by
 have HS := Lib.hid hs
 have HM := Lib.hid hmx
 obtain ⟨R, hR⟩ : ∃ R, readL l = R := ⟨_, rfl⟩
 rw [hR] at h
 have HR := Lib.hid hR
 have HH := Lib.hid h
 clear hs hmx hR h
 go_enter Tryz.func18, Tryz.ntmps18
 go_wp2_with fail
 (with_reducible refine (t_split_x _ s 0 l HS.out).mono ?_); rintro e w1 ⟨A, n, c, rfl, ht, hb1⟩
 rw [errV_0]
 have z1 : Blk w1 w.heap.size 36 #[.string ⟨#[]⟩, .slice none 0 0, .slice none 0 0, .slice none 0 0] := (blkAt _ _ _ (by simp)).below hb1 (by simp)
 have q1 := ((Below.refl _ _).alloc (Nat.le_refl _) _).trans (hb1.mono (by simp))
 have hz1 := z1.lt
 have H1 := Lib.hid (rd_start HS.out ht (HM.out.belw q1) L0 ⟨rfl, rfl, rfl, rfl⟩)
 have Z1 := Lib.hid (z1.alloc (.cells #[.slice A n c, .string ⟨#[]⟩, .slice none 0 0, .slice none 0 0, .slice none 0 0, .nilIface] 100))
 have Q1 := Lib.hid (q1.alloc q1.size (.cells #[.slice A n c, .string ⟨#[]⟩, .slice none 0 0, .slice none 0 0, .slice none 0 0, .nilIface] 100))
 clear hb1 z1 q1 ht
 go_wp2_with fail
 (with_reducible refine (rd_expect w1.heap.size _ w1.heap.size _ _ _ _ ⟨l, L0, 0⟩ H1.out.rd 0 0 rfl [108, 105, 110, 107, 97, 103, 101]).mono ?_); rintro e w2 ⟨rfl, h2, hg2⟩
 have H2 := Lib.hid (H1.out.call h2 hg2 (expect_stp _ 0 _).sameL (expect_stp _ 0 _).1)
 have B2 := H1.out.below hg2
 have Z2 := Lib.hid (Z1.out.below B2 hz1)
 have Q2 := Lib.hid (Q1.out.trans (B2.mono (by omega)))
 have hl2 := h2.lt
 clear h2 hg2 B2 Z1 Q1 H1
 generalize hgr : w1.heap.size = gr at hz1 H2 hl2 ⊢
 have hs1 : (⟨l, L0, 0⟩ : PS).expect 0 [108, 105, 110, 107, 97, 103, 101] = (⟨l, L0, 0⟩ : PS).expect 0 wLinkage := rfl
 rw [hs1] at H2
 clear hs1
 have HR1 := HR.out
 unfold readL at HR1
 simp only at HR1
 have hst1 := expect_stp (⟨l, L0, 0⟩ : PS) 0 wLinkage
 generalize (⟨l, L0, 0⟩ : PS).expect 0 wLinkage = s1 at H2 HR1 hst1
 have HR2 := Lib.hid HR1
 have HST1 := Lib.hid hst1
 clear HR1 hst1 HR
 go_wp2_with fail
 (with_reducible refine (rd_word gr _ gr _ _ _ _ s1 H2.out.rd).mono ?_); rintro e w3 ⟨rfl, h3, hg3⟩
 have hnm := word_nm H2.out.rd.txt
 have H3 := Lib.hid (H2.out.call h3 hg3 (word_stp _).sameL (word_stp _).1)
 have B3 := H2.out.below hg3
 have Z3 := Lib.hid (Z2.out.below B3 hz1)
 have Q3 := Lib.hid (Q2.out.trans (B3.mono (by omega)))
 have H3n := Lib.hid (H3.out.name s1.word.1 hnm)
 have hl3 := h3.lt
 obtain ⟨cn1, _, _, _, fn1, _⟩ := h3.cells
 clear h3 hg3 B3 hnm
 go_wp2_with fail
 clear cn1 fn1
 (with_reducible refine (rd_sign gr _ gr _ _ _ _ _ H3n.out.rd [59]).mono ?_); rintro e w4 ⟨rfl, h4, hg4⟩
 have H4 := Lib.hid (H3n.out.call h4 hg4 (expect_stp _ 2 _).sameL (expect_stp _ 2 _).1)
 have B4 := H3n.out.below hg4
 have hz3 := Z3.out.far (p := ⟨gr, 1, none⟩) (by show w.heap.size ≠ gr; omega) (strV s1.word.1)
 have Z4 := Lib.hid (hz3.below B4 hz1)
 have Q4 := Lib.hid ((Q3.out.setCell (p := ⟨gr, 1, none⟩) (by show w.heap.size ≤ gr; omega) (strV s1.word.1)).trans (B4.mono (by omega)))
 have hlen : s1.word.2.toks.length < l.length + 1 := by
  have h1 := HST1.out.1
  have h2 := (word_stp s1).1
  have h3 : s1.toks.length ≤ l.length := h1
  omega
 have hst4 := (expect_stp (⟨s1.word.2.toks, ⟨s1.word.1, s1.word.2.L.bodies, s1.word.2.L.joints, s1.word.2.L.drivers⟩, s1.word.2.x⟩ : PS) 2 [59]).1
 clear h4 hg4 B4 H3n H3 H2 Z2 Q2 Z3 Q3 hz3 HST1
 generalize (⟨s1.word.2.toks, ⟨s1.word.1, s1.word.2.L.bodies, s1.word.2.L.joints, s1.word.2.L.drivers⟩, s1.word.2.x⟩ : PS).expect 2 [59] = s4 at H4 HR2 hst4
 have hlen4 : s4.toks.length < l.length + 1 := by
  have h3 : s4.toks.length ≤ s1.word.2.toks.length := hst4
  omega
 clear hst4 hlen
 go_wp2_with fail
 go_loopw [] (fun wr => ∃ f s' A n c A' n' c' A'' n'' c'', RdL gr wr gr s' A n c A' n' c' A'' n'' c'' ∧ (s'.x = 0 → s'.toks.length < f) ∧ Hid (PS.items f s' = R) ∧ Below w.heap.size w wr ∧ Blk wr w.heap.size 36 #[.string ⟨#[]⟩, .slice none 0 0, .slice none 0 0, .slice none 0 0]) (fun wr => mOf gr wr)
 case atStart => exact ⟨l.length + 1, s4, _, _, _, _, _, _, _, _, _, H4.out, fun _ => hlen4, HR2, Q4.out, Z4.out⟩
 case round =>
  clear H4 HR2 Q4 Z4 hlen4
  obtain ⟨f, s', A, n, c, A', n', c', A'', n'', c'', hrd, hf, HRr, hq, hz⟩ := hrel
  rename World => wr
  have HRD := Lib.hid hrd
  have HQ := Lib.hid hq
  have HZ := Lib.hid hz
  have HF := Lib.hid hf
  clear hrd hq hz hf
  by_cases hmr : s'.x = 0 ∧ s'.toks ≠ []
  ·have HMR := Lib.hid hmr
   clear hmr
   go_wp2_with fail
   (with_reducible refine (rd_more gr _ gr _ _ _ _ s' HRD.out.rd true (by simp only [HMR.out, and_self, decide_true, ne_eq, not_false_eq_true])).mono ?_); rintro e w5 ⟨rfl, h5, hg5⟩
   have H5 := Lib.hid (HRD.out.call h5 hg5 rfl (Nat.le_refl _))
   have B5 := HRD.out.below hg5
   clear h5 hg5
   go_wp2_with fail
   (with_reducible refine (rd_item gr _ gr s' A n c A' n' c' A'' n'' c'' H5.out).mono ?_); rintro e w6 ⟨rfl, ⟨A5, n5, c5, A6, n6, c6, A7, n7, c7, h6⟩, hb6⟩
   have H6 := Lib.hid h6
   have B6 := B5.trans hb6
   clear h6 hb6
   go_wp2_with fail
   have hil := item_len s'
   have hff := HF.out HMR.out.1
   have hst := items_step (f := f) (by omega) HMR.out
   rw [HRr.out] at hst
   go_roundw
   case rel => exact ⟨f - 1, s'.item, _, _, _, _, _, _, _, _, _, H6.out, fun hx => by have := hil.2 hx; omega, Lib.hid hst.symm, HQ.out.trans (B6.mono (by omega)), HZ.out.below B6 hz1⟩
   case measure =>
    rw [H6.out.rd.meas, HRD.out.rd.meas, if_pos HMR.out.1]
    have h8 := hil.1
    by_cases hx : s'.item.x = 0
    ·have h9 := hil.2 hx
     rw [if_pos hx]; omega
    ·rw [if_neg hx]; omega
  ·have hend := items_end (f := f) hmr
   rw [HRr.out] at hend
   subst hend
   have HMR := Lib.hid hmr
   clear hmr
   go_wp2_with fail
   (with_reducible refine (rd_more gr _ gr _ _ _ _ R HRD.out.rd false (decide_eq_false HMR.out)).mono ?_); rintro e w5 ⟨rfl, h5, hg5⟩
   have B5 := HRD.out.below hg5
   have H5 := Lib.hid (HRD.out.call h5 hg5 rfl (Nat.le_refl _))
   have Q5 := Lib.hid (HQ.out.trans (B5.mono (by omega)))
   have z5 := HZ.out.below B5 hz1
   have Z5 := Lib.hid z5
   obtain ⟨D5, m5, d5, hb5, _⟩ := h5.blk
   obtain ⟨_, g1, g2, g3, g4, g5⟩ := hb5.c6
   have hl5 := h5.lt
   obtain ⟨cz0, cz1, cz2, cz3⟩ := z5.c4
   obtain ⟨fz0, fz1, fz2, fz3⟩ := z5.f4
   have hne : ¬ gr = w.heap.size := by omega
   clear h5 hg5 B5 z5 hb5 HRD HQ HZ HMR HF
   rcases HH.out with ⟨hx, rfl, rfl⟩ | ⟨hx, hc, rfl, rfl⟩ | ⟨hx, hc, rfl, rfl⟩
   ·rw [eVp hx] at g5
    have HX := Lib.hid hx
    clear hx
    go_wp2_with fail
    go_region
    all_goals
     go_wp2_with fail
     refine bodyPost_ret (v := .tuple #[.agg #[.string ⟨#[]⟩, .slice none 0 0, .slice none 0 0, .slice none 0 0], .iface 63 (.int .i64 R.x)]) (by simp [results, Tryz.results18, go_sem, *] <;> first | rfl | exact ⟨rfl, rfl⟩) rfl ?_
     rw [eVp HX.out]
     exact ⟨_, _, _, _, _, _, _, _, _, rfl, lk_zero _ _, by first | exact bel4 Q5.out (Nat.le_refl _) _ _ _ _ | exact bel4 Q5.out.drew (Nat.le_refl _) _ _ _ _⟩
   ·rw [hx, errV_0] at g5
    clear hx
    have HCK := Lib.hid hc
    clear hc
    go_wp2_with fail
    (with_reducible refine (m_check _ A n c A' n' c' A'' n'' c'' R.L 130 H5.out.lk (by decide) (by decide) _ rfl).mono ?_); rintro e w6 ⟨rfl, hb6⟩
    rw [eVp HCK.out]
    have z6 := Z5.out.below hb6 (by omega)
    obtain ⟨cy0, cy1, cy2, cy3⟩ := z6.c4
    obtain ⟨fy0, fy1, fy2, fy3⟩ := z6.f4
    have Q6 := Lib.hid (Q5.out.trans (hb6.mono Q5.out.size))
    clear hb6 z6 cz0 cz1 cz2 cz3 fz0 fz1 fz2 fz3 g1 g2 g3 g4 g5
    go_wp2_with fail
    refine bodyPost_ret (v := .tuple #[.agg #[.string ⟨#[]⟩, .slice none 0 0, .slice none 0 0, .slice none 0 0], .iface 63 (.int .i64 (lkErr R.L))]) (by simp [results, Tryz.results18, go_sem, *] <;> first | rfl | exact ⟨rfl, rfl⟩) rfl ?_
    rw [eVp HCK.out]
    exact ⟨_, _, _, _, _, _, _, _, _, rfl, lk_zero _ _, bel4 Q6.out (Nat.le_refl _) _ _ _ _⟩
   ·rw [hx, errV_0] at g5
    clear hx
    have HCK := Lib.hid hc
    clear hc
    go_wp2_with fail
    (with_reducible refine (m_check _ A n c A' n' c' A'' n'' c'' R.L 130 H5.out.lk (by decide) (by decide) 0 HCK.out).mono ?_); rintro e w6 ⟨rfl, hb6⟩
    rw [errV_0]
    have z6 := Z5.out.below hb6 (by omega)
    obtain ⟨cy0, cy1, cy2, cy3⟩ := z6.c4
    obtain ⟨fy0, fy1, fy2, fy3⟩ := z6.f4
    have H6 := Lib.hid (H5.out.belw hb6)
    have Z6 := Lib.hid z6
    obtain ⟨k1, k2, k3, k4, _⟩ := H6.out.rd.cells
    have Q6 := Lib.hid (Q5.out.trans (hb6.mono Q5.out.size))
    clear hb6 z6 cz0 cz1 cz2 cz3 fz0 fz1 fz2 fz3 g1 g2 g3 g4 g5
    go_wp2_with fail
    refine bodyPost_ret (v := .tuple #[.agg #[strV R.L.name, .slice A n c, .slice A' n' c', .slice A'' n'' c''], .nilIface]) (by simp [results, Tryz.results18, go_sem, *] <;> first | rfl | exact ⟨rfl, rfl⟩) rfl ?_
    exact ⟨_, _, _, _, _, _, _, _, _, rfl, H6.out.lkA (tch4 Z6.out ⟨rfl, rfl, rfl, rfl⟩ _ _ _ _), bel4 Q6.out (Nat.le_refl _) _ _ _ _⟩
theorem ps_linkage (w : World) (s : List UInt8) (x : Int) (L : LinkL) (hmx : Mx w) (h : ReadOut s x L) : Calls Tryz.prog 18 #[strV s] w (RetLkE w (errV x) L) := by
  rcases h with ⟨l, hs, hx, rfl⟩ | ⟨l, hs, hr, hx, rfl⟩ | ⟨l, hs, hr, hc, hx, rfl⟩ | ⟨l, hs, hr, hc, rfl, rfl⟩
  · exact p_linkage_1 w s x l hs hx
  · exact p_linkage_2 w s l hmx hs x L0 (.inl ⟨by rw [hr]; exact hx, hr.symm, rfl⟩)
  · exact p_linkage_2 w s l hmx hs x L0 (.inr (.inl ⟨hr, by rw [hc]; exact hx, hc.symm, rfl⟩))
  · exact p_linkage_2 w s l hmx hs 0 _ (.inr (.inr ⟨hr, hc, rfl, rfl⟩))
end Go.Proofs.YtoiijifnfdgfpaaGreatDoor
