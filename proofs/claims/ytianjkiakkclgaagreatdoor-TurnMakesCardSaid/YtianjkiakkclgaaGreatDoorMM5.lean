/- Part MM5: lemmas and walks that the claim rests on. No claim is made here. -/
import Derived.Deep.RegionHeld3
import Derived.Deep.DrawnRows
import Derived.Test.YtianjkiakkclgaaGreatDoorMM4
set_option linter.unusedVariables false
set_option maxHeartbeats 8000000
set_option maxRecDepth 100000
/- Plain: decimals. -/
namespace Go.Proofs.YtianjkiakkclgaaGreatDoor
open Go Go.RowKit Bn
attribute [local go_sem ↓] Go.wp_at_zero Go.wp_at_succ
def NI (z : Int) (B : List UInt8) (i : Nat) : Int := z * 10 ^ i + (decVal (B.take i) : Nat)
theorem NI_zero (z : Int) (B : List UInt8) : NI z B 0 = z := by
  unfold NI; rw [List.take_zero, show decVal [] = 0 from rfl]; simp
theorem NI_succ (z : Int) (B : List UInt8) (i : Nat) (h : i < B.length) : NI z B i * 10 + (dval B[i] : Nat) = NI z B (i + 1) := by
  unfold NI
  rw [List.take_succ_eq_append_getElem h, decVal_snoc, Int.pow_succ]
  push_cast
  rw [Int.add_mul, Int.mul_assoc]; omega
theorem NI_len (z : Int) (B : List UInt8) : NI z B B.length = z * 10 ^ B.length + (decVal B : Nat) := by
  unfold NI; rw [List.take_length]
theorem ten_lt {i : Nat} (hi : i ≤ 64) : (((10 ^ i : Nat) : Int)).natAbs < 4294967296 ^ 64 := by
  rw [Int.natAbs_natCast]
  have h1 : 10 ^ i ≤ 10 ^ 64 := Nat.pow_le_pow_right (by omega) hi
  have h2 : (10 : Nat) ^ 64 < 4294967296 ^ 64 := by decide
  omega
theorem ten_ne (i : Nat) : ((10 ^ i : Nat) : Int) ≠ 0 := by have := Nat.pow_pos (n := i) (show 0 < 10 by omega); omega
theorem NI_lt {x i j : Nat} {B : List UInt8} (hx : x < 10 ^ j) (hB : B.all isDg = true) (hl : i ≤ B.length) (hj : j + B.length ≤ 64) : (NI (x : Int) B i).natAbs < 4294967296 ^ 64 := by
  have h1 : decVal (B.take i) < 10 ^ i := by
    have := decVal_lt (all_take hB i)
    rw [List.length_take, Nat.min_eq_left hl] at this
    exact this
  have h2 : NI (x : Int) B i = ((x * 10 ^ i + decVal (B.take i) : Nat) : Int) := by unfold NI; push_cast; rfl
  rw [h2, Int.natAbs_natCast]
  have h3 : x * 10 ^ i + decVal (B.take i) < 10 ^ (j + i) := by
    rw [Nat.pow_add]
    have : (x + 1) * 10 ^ i ≤ 10 ^ j * 10 ^ i := Nat.mul_le_mul_right _ hx
    rw [Nat.add_mul] at this
    omega
  have h4 : 10 ^ (j + i) ≤ 10 ^ 64 := Nat.pow_le_pow_right (by omega) (by omega)
  have h5 : (10 : Nat) ^ 64 < 4294967296 ^ 64 := by decide
  omega
theorem dec_lt {T : List UInt8} {X : Nat} (h : okZ T = true) (hX : valZ T = (X : Int)) : ∃ J, J ≤ T.length ∧ X < 10 ^ J := by
  obtain ⟨h0, h1, h2⟩ := okZ_parts h
  refine ⟨(tailS T).length, tailS_len T, ?_⟩
  have h3 := decVal_lt h1
  unfold valZ at hX
  split at hX <;> omega
theorem sign_nn {z : Int} (h : 0 ≤ z) : 0 ≤ z.sign := by
  rcases sign3 z with s | s | s
  · rw [s]; decide
  · rw [s]; decide
  · have := Int.sign_eq_neg_one_iff_neg.1 s; omega
theorem ten_succ (i : Nat) : ((10 ^ i : Nat) : Int) * 10 = ((10 ^ (i + 1) : Nat) : Int) := by rw [Nat.pow_succ]; push_cast; rfl
theorem f_dec_1 (w : World) (F B : List UInt8) (hFB : F.length + B.length ≤ 64) (ho : okZ (tailS F) = false) :
  Calls Tryz.prog 59 #[strV F, strV B] w (RetFe w (.iface 57 (.int .i64 2)) 0 64) := by
 obtain ⟨mm, hmm⟩ : ∃ mm, headM F = mm := ⟨_, rfl⟩
 obtain ⟨T, hT⟩ : ∃ T, tailS F = T := ⟨_, rfl⟩
 have HM := Lib.hid hmm
 have HT := Lib.hid hT
 have hTF : T.length ≤ F.length := by rw [← hT]; exact tailS_len F
 have hT6 : T.length ≤ 65536 := by omega
 have hB6 : B.length ≤ 1000000 := by omega
 have htlB := toList_v B
 have htl1 := toList_v []
 have hszB := size_v B
 have HO := Lib.hid (show okZ T = false by rw [← hT]; exact ho)
 clear hmm hT ho
 go_enter Tryz.func59, Tryz.ntmps59
 go_wp2_with fail
 (with_reducible refine (prefix_v _ (F) mm HM.out).mono ?_); rintro e w1 ⟨rfl, hb1⟩
 have q1 := hb1.q1
 have x1a : Blk w1 w.heap.size 24 #[.bool false, .slice none 0 0, .slice none 0 0] := (blkAt _ _ _ (by simp)).below hb1 (by simp)
 have bw1 := (brefl w).trans (q1.mono (brefl w).size)
 have lw1 := hb1.l1
 clear q1
 go_wp2_with fail
 (with_reducible refine (tprefix_v _ (F) T HT.out).mono ?_); rintro e w2 ⟨rfl, q2⟩
 replace x1a := x1a.b q2
 have bw2 := bw1.trans (q2.mono bw1.size)
 have lw2 := q2.size
 clear q2 bw1
 go_wp2_with fail
 (with_reducible refine (i_parse_bad _ (T) (by omega) HO.out).mono ?_); rintro e w3 ⟨b3, A3, n3, c3, rfl, h3, q3⟩
 replace x1a := x1a.b q3
 have bw3 := bw2.trans (q3.mono bw2.size)
 have lw3 := q3.size
 clear q3 bw2
 have cx1a := x1a.c3
 have fx1a := x1a.f3
 have lx1a := lts0 x1a.lt
 go_wp2_with fail
 refine bodyPost_ret (v := .tuple #[.agg #[.bool false, .slice none 0 0, .slice none 0 0], .iface 57 (.int .i64 2)]) (by simp [results, Tryz.results59, go_sem, *] <;> trivial) rfl ?_
 exact ⟨_, _, _, _, _, _, _, rfl, QV.zero _ _, ((((bw3.sc w.heap.size 0 (by omega) (.bool false)).sc w.heap.size 1 (by omega) (.slice none 0 0)).sc w.heap.size 2 (by omega) (.slice none 0 0)).alloc (by first | omega | (simp <;> omega)) (.cells #[.bool b3, .slice A3 n3 c3] 77))⟩
theorem f_dec_2 (w : World) (F B : List UInt8) (hFB : F.length + B.length ≤ 64) (ho : okZ (tailS F) = true) (hs : (valZ (tailS F)).sign = -1) :
  Calls Tryz.prog 59 #[strV F, strV B] w (RetFe w (.iface 57 (.int .i64 2)) 0 64) := by
 obtain ⟨mm, hmm⟩ : ∃ mm, headM F = mm := ⟨_, rfl⟩
 obtain ⟨T, hT⟩ : ∃ T, tailS F = T := ⟨_, rfl⟩
 have HM := Lib.hid hmm
 have HT := Lib.hid hT
 have hTF : T.length ≤ F.length := by rw [← hT]; exact tailS_len F
 have hT6 : T.length ≤ 65536 := by omega
 have hB6 : B.length ≤ 1000000 := by omega
 have htlB := toList_v B
 have htl1 := toList_v []
 have hszB := size_v B
 have HO := Lib.hid (show okZ T = true by rw [← hT]; exact ho)
 have HS := Lib.hid (show (valZ T).sign = -1 by rw [← hT]; exact hs)
 clear hmm hT ho hs
 go_enter Tryz.func59, Tryz.ntmps59
 go_wp2_with fail
 (with_reducible refine (prefix_v _ (F) mm HM.out).mono ?_); rintro e w1 ⟨rfl, hb1⟩
 have q1 := hb1.q1
 have x1a : Blk w1 w.heap.size 24 #[.bool false, .slice none 0 0, .slice none 0 0] := (blkAt _ _ _ (by simp)).below hb1 (by simp)
 have bw1 := (brefl w).trans (q1.mono (brefl w).size)
 have lw1 := hb1.l1
 clear q1
 go_wp2_with fail
 (with_reducible refine (tprefix_v _ (F) T HT.out).mono ?_); rintro e w2 ⟨rfl, q2⟩
 replace x1a := x1a.b q2
 have bw2 := bw1.trans (q2.mono bw1.size)
 have lw2 := q2.size
 clear q2 bw1
 go_wp2_with fail
 (with_reducible refine (i_parse_ok _ (T) (by omega) HO.out).mono ?_); rintro e w3 ⟨b3, A3, n3, c3, rfl, h3, q3⟩
 replace x1a := x1a.b q3
 have bw3 := bw2.trans (q3.mono bw2.size)
 have lw3 := q3.size
 clear q3 bw2
 go_wp2_with fail
 (with_reducible refine (i_sign_e _ b3 A3 n3 c3 (valZ T) (T.length) ?_ ((-1)) ?_ ?_).mono ?_); (exact (h3.belw ((Below.refl _ _).alloc (Nat.le_refl _) _)).iz); (exact HS.out); (omega); rintro e w4 ⟨rfl, hb4⟩
 have q4 := hb4.q1
 replace h3 := h3.belw q4
 replace x1a := x1a.b q4
 have x4a : Blk w4 w3.heap.size 77 #[.bool b3, .slice A3 n3 c3] := (blkAt _ _ _ (by simp)).below hb4 (by simp)
 have bw4 := bw3.trans (q4.mono bw3.size)
 have lw4 := hb4.l1
 clear q4 bw3
 have cx1a := x1a.c3
 have fx1a := x1a.f3
 have lx1a := lts0 x1a.lt
 go_wp2_with fail
 refine bodyPost_ret (v := .tuple #[.agg #[.bool false, .slice none 0 0, .slice none 0 0], .iface 57 (.int .i64 2)]) (by simp [results, Tryz.results59, go_sem, *] <;> trivial) rfl ?_
 exact ⟨_, _, _, _, _, _, _, rfl, QV.zero _ _, (((bw4.sc w.heap.size 0 (by omega) (.bool false)).sc w.heap.size 1 (by omega) (.slice none 0 0)).sc w.heap.size 2 (by omega) (.slice none 0 0))⟩
theorem f_dec_3 (w : World) (F : List UInt8) (hF : F.length ≤ 64) (ho : okZ (tailS F) = true) (hs : 0 ≤ (valZ (tailS F)).sign) :
  Calls Tryz.prog 59 #[strV F, strV []] w (RetFe w (.iface 57 (.int .i64 2)) 0 64) := by
 obtain ⟨B, hB⟩ : ∃ B : List UInt8, B = [] := ⟨_, rfl⟩
 have hFB : F.length + B.length ≤ 64 := by rw [hB]; exact hF
 obtain ⟨mm, hmm⟩ : ∃ mm, headM F = mm := ⟨_, rfl⟩
 obtain ⟨T, hT⟩ : ∃ T, tailS F = T := ⟨_, rfl⟩
 have HM := Lib.hid hmm
 have HT := Lib.hid hT
 have hTF : T.length ≤ F.length := by rw [← hT]; exact tailS_len F
 have hT6 : T.length ≤ 65536 := by omega
 have hB6 : B.length ≤ 1000000 := by omega
 have htlB := toList_v B
 have htl1 := toList_v []
 have hszB := size_v B
 have HO := Lib.hid (show okZ T = true by rw [← hT]; exact ho)
 obtain ⟨s, hs1⟩ : ∃ s, (valZ T).sign = s := ⟨_, rfl⟩
 have es : (s < 0) = False := by simp; rw [← hs1, ← hT]; exact hs
 have HS := Lib.hid hs1
 clear hmm hT ho hs hs1 hFB htlB hszB
 go_enter Tryz.func59, Tryz.ntmps59
 go_wp2_with fail
 (with_reducible refine (prefix_v _ (F) mm HM.out).mono ?_); rintro e w1 ⟨rfl, hb1⟩
 have q1 := hb1.q1
 have x1a : Blk w1 w.heap.size 24 #[.bool false, .slice none 0 0, .slice none 0 0] := (blkAt _ _ _ (by simp)).below hb1 (by simp)
 have bw1 := (brefl w).trans (q1.mono (brefl w).size)
 have lw1 := hb1.l1
 clear q1
 go_wp2_with fail
 (with_reducible refine (tprefix_v _ (F) T HT.out).mono ?_); rintro e w2 ⟨rfl, q2⟩
 replace x1a := x1a.b q2
 have bw2 := bw1.trans (q2.mono bw1.size)
 have lw2 := q2.size
 clear q2 bw1
 go_wp2_with fail
 (with_reducible refine (i_parse_ok _ (T) (by omega) HO.out).mono ?_); rintro e w3 ⟨b3, A3, n3, c3, rfl, h3, q3⟩
 replace x1a := x1a.b q3
 have bw3 := bw2.trans (q3.mono bw2.size)
 have lw3 := q3.size
 clear q3 bw2
 go_wp2_with fail
 (with_reducible refine (i_sign_e _ b3 A3 n3 c3 (valZ T) (T.length) ?_ (s) ?_ ?_).mono ?_); (exact (h3.belw ((Below.refl _ _).alloc (Nat.le_refl _) _)).iz); (exact HS.out); (omega); rintro e w4 ⟨rfl, hb4⟩
 have q4 := hb4.q1
 replace h3 := h3.belw q4
 replace x1a := x1a.b q4
 have x4a : Blk w4 w3.heap.size 77 #[.bool b3, .slice A3 n3 c3] := (blkAt _ _ _ (by simp)).below hb4 (by simp)
 have bw4 := bw3.trans (q4.mono bw3.size)
 have lw4 := hb4.l1
 clear q4 bw3
 have cx1a := x1a.c3
 have fx1a := x1a.f3
 have lx1a := lts0 x1a.lt
 go_wp2_with fail
 refine bodyPost_ret (v := .tuple #[.agg #[.bool false, .slice none 0 0, .slice none 0 0], .iface 57 (.int .i64 2)]) (by simp [results, Tryz.results59, go_sem, *] <;> trivial) rfl ?_
 exact ⟨_, _, _, _, _, _, _, rfl, QV.zero _ _, (((bw4.sc w.heap.size 0 (by omega) (.bool false)).sc w.heap.size 1 (by omega) (.slice none 0 0)).sc w.heap.size 2 (by omega) (.slice none 0 0))⟩
theorem f_dec_4 (w : World) (F B : List UInt8) (hFB : F.length + B.length ≤ 64) (ho : okZ (tailS F) = true) (hs : 0 ≤ (valZ (tailS F)).sign) (hB : B ≠ []) (ha : B.all isDg = false) :
  Calls Tryz.prog 59 #[strV F, strV B] w (RetFe w (.iface 57 (.int .i64 2)) 0 64) := by
 obtain ⟨mm, hmm⟩ : ∃ mm, headM F = mm := ⟨_, rfl⟩
 obtain ⟨T, hT⟩ : ∃ T, tailS F = T := ⟨_, rfl⟩
 have HM := Lib.hid hmm
 have HT := Lib.hid hT
 have hTF : T.length ≤ F.length := by rw [← hT]; exact tailS_len F
 have hT6 : T.length ≤ 65536 := by omega
 have hB6 : B.length ≤ 1000000 := by omega
 have htlB := toList_v B
 have htl1 := toList_v []
 have hszB := size_v B
 have HO := Lib.hid (show okZ T = true by rw [← hT]; exact ho)
 obtain ⟨s, hs1⟩ : ∃ s, (valZ T).sign = s := ⟨_, rfl⟩
 have es : (s < 0) = False := by simp; rw [← hs1, ← hT]; exact hs
 have HS := Lib.hid hs1
 obtain ⟨x, xs, hx⟩ := List.exists_cons_of_ne_nil (show Lib.trimS B digs10 ≠ [] from fun e => by rw [trim_dg.1 e] at ha; cases ha)
 have HX := Lib.hid hx
 have htlx := toList_v (x :: xs)
 clear hmm hT ho hs hs1 ha hx
 obtain ⟨y, ys, rfl⟩ := List.exists_cons_of_ne_nil hB
 go_enter Tryz.func59, Tryz.ntmps59
 go_wp2_with fail
 (with_reducible refine (prefix_v _ (F) mm HM.out).mono ?_); rintro e w1 ⟨rfl, hb1⟩
 have q1 := hb1.q1
 have x1a : Blk w1 w.heap.size 24 #[.bool false, .slice none 0 0, .slice none 0 0] := (blkAt _ _ _ (by simp)).below hb1 (by simp)
 have bw1 := (brefl w).trans (q1.mono (brefl w).size)
 have lw1 := hb1.l1
 clear q1
 go_wp2_with fail
 (with_reducible refine (tprefix_v _ (F) T HT.out).mono ?_); rintro e w2 ⟨rfl, q2⟩
 replace x1a := x1a.b q2
 have bw2 := bw1.trans (q2.mono bw1.size)
 have lw2 := q2.size
 clear q2 bw1
 go_wp2_with fail
 (with_reducible refine (i_parse_ok _ (T) (by omega) HO.out).mono ?_); rintro e w3 ⟨b3, A3, n3, c3, rfl, h3, q3⟩
 replace x1a := x1a.b q3
 have bw3 := bw2.trans (q3.mono bw2.size)
 have lw3 := q3.size
 clear q3 bw2
 go_wp2_with fail
 (with_reducible refine (i_sign_e _ b3 A3 n3 c3 (valZ T) (T.length) ?_ (s) ?_ ?_).mono ?_); (exact (h3.belw ((Below.refl _ _).alloc (Nat.le_refl _) _)).iz); (exact HS.out); (omega); rintro e w4 ⟨rfl, hb4⟩
 have q4 := hb4.q1
 replace h3 := h3.belw q4
 replace x1a := x1a.b q4
 have x4a : Blk w4 w3.heap.size 77 #[.bool b3, .slice A3 n3 c3] := (blkAt _ _ _ (by simp)).below hb4 (by simp)
 have bw4 := bw3.trans (q4.mono bw3.size)
 have lw4 := hb4.l1
 clear q4 bw3
 go_wp2_with fail
 (with_reducible refine (trim_v _ ((y :: ys)) ((x :: xs)) (by omega) HX.out).mono ?_); rintro e w5 ⟨rfl, q5⟩
 replace h3 := h3.belw q5
 replace x1a := x1a.b q5
 replace x4a := x4a.b q5
 have bw5 := bw4.trans (q5.mono bw4.size)
 have lw5 := q5.size
 clear q5 bw4
 have cx1a := x1a.c3
 have fx1a := x1a.f3
 have lx1a := lts0 x1a.lt
 go_wp2_with fail
 refine bodyPost_ret (v := .tuple #[.agg #[.bool false, .slice none 0 0, .slice none 0 0], .iface 57 (.int .i64 2)]) (by simp [results, Tryz.results59, go_sem, *] <;> trivial) rfl ?_
 exact ⟨_, _, _, _, _, _, _, rfl, QV.zero _ _, (((bw5.sc w.heap.size 0 (by omega) (.bool false)).sc w.heap.size 1 (by omega) (.slice none 0 0)).sc w.heap.size 2 (by omega) (.slice none 0 0))⟩
theorem f_dec_ok_t (w : World) (F B : List UInt8) (hFB : F.length + B.length ≤ 64) (hm : headM F = true) (ho : okZ (tailS F) = true) (hz : 0 ≤ valZ (tailS F)) (hB : B ≠ []) (ha : B.all isDg = true) :
    Calls Tryz.prog 59 #[strV F, strV B] w (RetFe w .nilIface (decQ F B) 64) := by
  have hmm : headM F = true := hm
  obtain ⟨T, hT⟩ : ∃ T, tailS F = T := ⟨_, rfl⟩
  have HM := Lib.hid hmm
  have HT := Lib.hid hT
  have hTF : T.length ≤ F.length := by rw [← hT]; exact tailS_len F
  have hT6 : T.length ≤ 65536 := by omega
  have hB6 : B.length ≤ 1000000 := by omega
  have htlB := toList_v B
  have htl1 := toList_v []
  have hszB := size_v B
  have HO := Lib.hid (show okZ T = true by rw [← hT]; exact ho)
  have hs : 0 ≤ (valZ (tailS F)).sign := sign_nn hz
  obtain ⟨s, hs1⟩ : ∃ s, (valZ T).sign = s := ⟨_, rfl⟩
  have es : (s < 0) = False := by simp; rw [← hs1, ← hT]; exact hs
  have HS := Lib.hid hs1
  have HX := Lib.hid (trim_dg.2 ha)
  obtain ⟨X, hX⟩ : ∃ X : Nat, valZ T = (X : Int) := ⟨(valZ T).toNat, by rw [← hT]; omega⟩
  obtain ⟨J, hJ, hX2⟩ : ∃ J, J ≤ T.length ∧ X < 10 ^ J := dec_lt (by rw [← hT]; exact ho) hX
  have HA := Lib.hid ha
  have HX3 := Lib.hid (And.intro hX2 (show J + B.length ≤ 64 by omega))
  have HX2 := Lib.hid hX
  have HQ := Lib.hid (show Rat.divInt (-NI (X : Int) B B.length) ((10 ^ B.length : Nat) : Int) = decQ F B by
    unfold decQ decN; rw [hm, hT, hX, NI_len]; push_cast; rfl)
  have hB64 : B.length ≤ 64 := by omega
  have HSQ := Lib.hid (show Sz (decQ F B) 64 by
    rw [← HQ.out]
    exact Sz_divInt (by rw [Int.natAbs_neg]; exact NI_lt HX3.out.1 ha (Nat.le_refl _) HX3.out.2) (ten_lt hB64) (by decide))
  clear hmm hm hT ho hs hs1 ha hz hX hX2 hJ
  obtain ⟨y, ys, hyy⟩ := List.exists_cons_of_ne_nil hB
  have hBe : ((⟨B.toArray⟩ : ByteArray) == ⟨#[]⟩) = false := by rw [hyy]; rfl
  have hBl : (B == []) = false := by rw [hyy]; rfl
  have hBp : 0 < B.length := by rw [hyy]; simp
  clear hyy
  go_enter Tryz.func59, Tryz.ntmps59
  go_wp2_with fail
  (with_reducible refine (prefix_v _ (F) true HM.out).mono ?_); rintro e w1 ⟨rfl, hb1⟩
  have q1 := hb1.q1
  have x1a : Blk w1 w.heap.size 24 #[.bool false, .slice none 0 0, .slice none 0 0] := (blkAt _ _ _ (by simp)).below hb1 (by simp)
  have bw1 := (brefl w).trans (q1.mono (brefl w).size)
  have lw1 := hb1.l1
  clear q1
  go_wp2_with fail
  (with_reducible refine (tprefix_v _ (F) T HT.out).mono ?_); rintro e w2 ⟨rfl, q2⟩
  replace x1a := x1a.b q2
  have bw2 := bw1.trans (q2.mono bw1.size)
  have lw2 := q2.size
  clear q2 bw1
  go_wp2_with fail
  (with_reducible refine (i_parse_ok _ (T) (by omega) HO.out).mono ?_); rintro e w3 ⟨b3, A3, n3, c3, rfl, h3, q3⟩
  replace x1a := x1a.b q3
  have bw3 := bw2.trans (q3.mono bw2.size)
  have lw3 := q3.size
  clear q3 bw2
  go_wp2_with fail
  (with_reducible refine (i_sign_e _ b3 A3 n3 c3 (valZ T) (T.length) ?_ (s) ?_ ?_).mono ?_); (exact (h3.belw ((Below.refl _ _).alloc (Nat.le_refl _) _)).iz); (exact HS.out); (omega); rintro e w4 ⟨rfl, hb4⟩
  have q4 := hb4.q1
  replace h3 := h3.belw q4
  replace x1a := x1a.b q4
  have x4a : Blk w4 w3.heap.size 77 #[.bool b3, .slice A3 n3 c3] := (blkAt _ _ _ (by simp)).below hb4 (by simp)
  have bw4 := bw3.trans (q4.mono bw3.size)
  have lw4 := hb4.l1
  clear q4 bw3
  go_wp2_with fail
  (with_reducible refine (trim_v _ (B) ([]) (by omega) HX.out).mono ?_); rintro e w5 ⟨rfl, q5⟩
  replace h3 := h3.belw q5
  replace x1a := x1a.b q5
  replace x4a := x4a.b q5
  have bw5 := bw4.trans (q5.mono bw4.size)
  have lw5 := q5.size
  clear q5 bw4
  go_wp2_with fail
  (with_reducible refine (i_of1 _ (10) ?_ ?_).mono ?_); (omega); (omega); rintro e w6 ⟨b6, A6, n6, c6, rfl, h6, q6⟩
  replace h3 := h3.belw q6
  replace x1a := x1a.b q6
  replace x4a := x4a.b q6
  have bw6 := bw5.trans (q6.mono bw5.size)
  have lw6 := q6.size
  clear q6 bw5
  go_wp2_with fail
  (with_reducible refine (f_one _).mono ?_); rintro e w7 ⟨b7, A7, n7, c7, rfl, h7, q7⟩
  replace h3 := h3.belw q7
  replace h6 := h6.belw q7
  replace x1a := x1a.b q7
  replace x4a := x4a.b q7
  have bw7 := bw6.trans (q7.mono bw6.size)
  have lw7 := q7.size
  clear q7 bw6
  go_wp2_with fail
  have p8 := (((Kp.refl w7).alloc (.cells #[.bool b6, .slice A6 n6 c6] 77)).alloc (.cells #[.bool b7, .slice A7 n7 c7] 77))
  have bw8 := ((bw7.alloc (by first | omega | (simp <;> omega)) (.cells #[.bool b6, .slice A6 n6 c6] 77)).alloc (by first | omega | (simp <;> omega)) (.cells #[.bool b7, .slice A7 n7 c7] 77))
  have x8a : Blk ((w7.alloc (.cells #[.bool b6, .slice A6 n6 c6] 77)).alloc (.cells #[.bool b7, .slice A7 n7 c7] 77)) w7.heap.size 77 #[.bool b6, .slice A6 n6 c6] := ((blkAt _ _ _ (by simp)).alloc (.cells #[.bool b7, .slice A7 n7 c7] 77))
  have x8b : Blk ((w7.alloc (.cells #[.bool b6, .slice A6 n6 c6] 77)).alloc (.cells #[.bool b7, .slice A7 n7 c7] 77)) (w7.heap.size + 1) 77 #[.bool b7, .slice A7 n7 c7] := (blkAt _ _ _ (by simp))
  replace x1a := ((x1a.alloc (.cells #[.bool b6, .slice A6 n6 c6] 77)).alloc (.cells #[.bool b7, .slice A7 n7 c7] 77))
  replace x4a := ((x4a.alloc (.cells #[.bool b6, .slice A6 n6 c6] 77)).alloc (.cells #[.bool b7, .slice A7 n7 c7] 77))
  have lw8 : w7.heap.size + 2 ≤ ((w7.alloc (.cells #[.bool b6, .slice A6 n6 c6] 77)).alloc (.cells #[.bool b7, .slice A7 n7 c7] 77)).heap.size := by simp
  generalize hE8 : ((w7.alloc (.cells #[.bool b6, .slice A6 n6 c6] 77)).alloc (.cells #[.bool b7, .slice A7 n7 c7] 77)) = w8 at p8 bw8 lw8 x8a x8b x1a x4a ⊢
  clear hE8
  replace h3 := h3.keep p8
  replace h6 := h6.keep p8
  replace h7 := h7.keep p8
  clear bw7
  go_loopw [43] (fun iv wr => ∃ (i : Nat) (bn : Bool) (An : Option Addr) (nn cn : Nat) (bs : Bool) (As : Option Addr) (ns cs : Nat), iv = .int .i64 (i : Nat) ∧ i ≤ B.length ∧ IV wr bn An nn cn (NI (X : Int) B i) 64 ∧ IV wr bs As ns cs ((10 ^ i : Nat) : Int) 64 ∧ Kp w8 wr ∧ Below w.heap.size w wr ∧ w8.heap.size ≤ wr.heap.size ∧ Blk wr w.heap.size 24 #[.bool false, .slice none 0 0, .slice none 0 0] ∧ Blk wr w3.heap.size 77 #[.bool bn, .slice An nn cn] ∧ Blk wr w7.heap.size 77 #[.bool b6, .slice A6 n6 c6] ∧ Blk wr (w7.heap.size + 1) 77 #[.bool bs, .slice As ns cs]) (fun iv _ => B.length - (intOf iv).toNat)
  case atStart => exact ⟨0, b3, A3, n3, c3, b7, A7, n7, c7, rfl, Nat.zero_le _, (by rw [NI_zero, ← HX2.out]; exact h3.mono (by omega)), (by rw [show ((10 ^ 0 : Nat) : Int) = 1 from rfl]; exact h7.mono (by omega)), Kp.refl _, bw8, Nat.le_refl _, x1a, x4a, x8a, x8b⟩
  case round =>
    clear x1a
    clear x4a
    clear x8a
    clear x8b
    obtain ⟨i, bn, An, nn, cn, bs, As, ns, cs, rfl, hi, ho, hp, hkp, hbw, hlw, x1a, x4a, x8a, x8b⟩ := hrel
    replace h3 := h3.keep hkp
    replace h6 := h6.keep hkp
    replace h7 := h7.keep hkp
    by_cases hlt : i < B.length
    · obtain ⟨d, hd⟩ : ∃ d, B[i] = d := ⟨_, rfl⟩
      have hdg : isDg d = true := List.all_eq_true.1 HA.out d (by rw [← hd]; exact List.getElem_mem _)
      have hget : ∀ h, (⟨B.toArray⟩ : ByteArray)[i]'h = d := fun h => hd
      have h8 : 48 ≤ d.toNat ∧ d.toNat ≤ 57 := by unfold isDg at hdg; rw [Bool.and_eq_true, decide_eq_true_eq, decide_eq_true_eq] at hdg; exact hdg
      obtain ⟨dn, hdn⟩ : ∃ dn, d.toNat = dn := ⟨_, rfl⟩
      obtain ⟨v, hv⟩ : ∃ v, dn - 48 = v := ⟨_, rfl⟩
      rw [hdn] at h8
      have e1 : (dn : Int) - 48 = (v : Int) := by omega
      have hv9 : v ≤ 9 := by omega
      have h81 := h8.1
      have h82 := h8.2
      have HD : dval d = v := by unfold dval; rw [hdn]; exact hv
      have HNI := Lib.hid (show NI (X : Int) B i * 10 + (v : Nat) = NI (X : Int) B (i + 1) by rw [← NI_succ _ _ _ hlt, hd, HD])
      have HB1 := Lib.hid (NI_lt HX3.out.1 HA.out (show i + 1 ≤ B.length by omega) HX3.out.2)
      have HB2 := Lib.hid (ten_lt (i := i + 1) (by omega))
      have hw8 : IntKind.u8.wrap (v : Int) = (v : Int) := IntWalk.u8_in _ ⟨by omega, by omega⟩
      have hw64 : IntKind.i64.wrap (v : Int) = (v : Int) := IntWalk.i64_in _ ⟨by omega, by omega⟩
      have hi0 : (0 : Int) ≤ (i : Int) := by omega
      have hiL : (i : Int) < (B.length : Int) := by omega
      clear hd hdg h8 hv HD
      obtain ⟨cx4aa, cx4ab⟩ := x4a.c2
      obtain ⟨lx4aa, lx4ab, lx4ac, lx4ad⟩ := lts0 x4a.lt
      have cx8a := x8a.c2
      have lx8a := lts0 x8a.lt
      go_wp2_with fail
      refine wp_region_lin (B := w.heap.size) (fr := fun xf => ⟨List.toArray (strV T :: strV B :: undef :: undef :: .pointer (some ⟨w.heap.size, 0, none⟩) :: .nilIface :: .bool true :: .pointer (some ⟨w3.heap.size, 0, none⟩) :: .nilIface :: .pointer (some ⟨w7.heap.size, 0, none⟩) :: .pointer (some ⟨w7.heap.size + 1, 0, none⟩) :: .int .i64 (i : Nat) :: strV F :: .bool true :: strV F :: strV T :: .tuple #[.agg #[.bool b3, .slice A3 n3 c3], .nilIface] :: strV T :: .tuple #[.agg #[.bool b3, .slice A3 n3 c3], .nilIface] :: .agg #[.bool b3, .slice A3 n3 c3] :: .nilIface :: .nilIface :: .bool false :: .bool false :: .agg #[.bool b3, .slice A3 n3 c3] :: .int .i64 s :: .bool false :: .bool false :: .bool false :: strV B :: .bool false :: .bool false :: .bool false :: strV B :: strV [] :: .bool false :: .bool false :: undef :: undef :: .agg #[.bool b6, .slice A6 n6 c6] :: .agg #[.bool b7, .slice A7 n7 c7] :: strV B :: .int .i64 (B.length : Nat) :: .int .i64 (i : Nat) :: .bool true :: .int .i64 (i : Nat) :: xf 0 :: xf 1 :: xf 2 :: xf 3 :: xf 4 :: xf 5 :: xf 6 :: xf 7 :: xf 8 :: xf 9 :: u56 :: u57 :: u58 :: u59 :: undef :: undef :: undef :: undef :: undef :: undef :: []), []⟩) (R := fun ri => List.getD ((PEq (.agg #[.bool bn, .slice An nn cn])) :: (PEq (.agg #[.bool b6, .slice A6 n6 c6])) :: (VI ((NI (X : Int) B i) * ((10 : Int))) ((64) + (1))) :: (PEq (strV B)) :: (PEq (.int .i64 (i : Nat))) :: (PEq (.int .u8 (dn : Nat))) :: (PEq (.int .u8 (v : Nat))) :: (PEq (.int .i64 (v : Nat))) :: (VI (((v : Nat) : Int)) (1)) :: (VI (((NI (X : Int) B i) * ((10 : Int))) + (((v : Nat) : Int))) (((64) + (1)) + (1) + 1)) :: PAny :: []) ri (fun _ _ => True)) (es := []) (ow := [⟨w.heap.size, 11, 0, 24, #[.bool false, .slice none 0 0, .slice none 0 0], CAny⟩, ⟨w3.heap.size, 10, 0, 77, #[.bool bn, .slice An nn cn], CI (((NI (X : Int) B i) * ((10 : Int))) + (((v : Nat) : Int))) (((64) + (1)) + (1) + 1)⟩, ⟨w7.heap.size, 11, 0, 77, #[.bool b6, .slice A6 n6 c6], CAny⟩, ⟨w7.heap.size + 1, 11, 0, 77, #[.bool bs, .slice As ns cs], CAny⟩]) (x0 := (upd (upd (upd (upd (upd (upd (upd (upd (upd (upd (fun _ => undef) 0 (u46)) 1 (u47)) 2 (u48)) 3 (u49)) 4 (u50)) 5 (u51)) 6 (u52)) 7 (u53)) 8 (u54)) 9 (u55))) (by kernel_rfl)
        (each_of ⟨fun _ _ => rfl, fun _ _ => rfl, fun _ _ => rfl, fun _ _ => rfl, fun _ _ => rfl, fun _ _ => rfl, fun _ _ => rfl, fun _ _ => rfl, fun _ _ => rfl, fun _ _ => rfl, fun _ _ => rfl, trivial⟩) (each_of (acyc_from _ 0 (by kernel_rfl))) (AllStab.get _ ⟨stEq _, stEq _, stI _ _, stEq _, stEq _, stEq _, stEq _, stEq _, stI _ _, stI _ _, stAny, trivial⟩)
        (fun _ h => nomatch h) (fmc ⟨scAny, fmc ⟨scI _ _, fmc ⟨scAny, fmc ⟨scAny, fun _ h => nomatch h⟩⟩⟩⟩) (fun _ h => nomatch h) hbw.size
        (fmc ⟨⟨x1a, by show w.heap.size ≤ w.heap.size; omega⟩, fmc ⟨⟨x4a, by show w.heap.size ≤ w3.heap.size; omega⟩, fmc ⟨⟨x8a, by show w.heap.size ≤ w7.heap.size; omega⟩, fmc ⟨⟨x8b, by show w.heap.size ≤ w7.heap.size + 1; omega⟩, fun _ h => nomatch h⟩⟩⟩⟩) (ownDist (by simp <;> omega))
        (each_of ⟨?_, ?_, ?_, ?_, ?_, ?_, ?_, ?_, ?_, ?_, ?_, trivial⟩) ?_
      · exact .inl ⟨by simp, by simp, fun xf wq hk hbl hd K hK => by
          have y : Blk wq w3.heap.size 77 #[.bool bn, .slice An nn cn] := hbl _ (List.Mem.tail _ (List.Mem.head _)) (by simp [Region.binds])
          obtain ⟨hcl0, hcl1⟩ := y.c2
          (try dsimp only)
          go_simp
          exact hK.out (.agg #[.bool bn, .slice An nn cn]) _ rfl (brefl _)⟩
      · exact .inl ⟨by simp, by simp, fun xf wq hk hbl hd K hK => by
          have y : Blk wq w7.heap.size 77 #[.bool b6, .slice A6 n6 c6] := hbl _ (List.Mem.tail _ (List.Mem.tail _ (List.Mem.head _))) (by simp [Region.binds])
          obtain ⟨hcl0, hcl1⟩ := y.c2
          (try dsimp only)
          go_simp
          exact hK.out (.agg #[.bool b6, .slice A6 n6 c6]) _ rfl (brefl _)⟩
      · exact .inl ⟨by simp, by simp, fun xf wq hk hbl hd K hK => by
          have dq0 : xf 0 = .agg #[.bool bn, .slice An nn cn] := hd ⟨0, .data⟩ (by simp) rfl
          have dq1 : xf 1 = .agg #[.bool b6, .slice A6 n6 c6] := hd ⟨1, .data⟩ (by simp) rfl
          (try dsimp only); (try simp only [dq0, dq1])
          go_simp
          go_at_call 50
          (with_reducible refine (i_mul _ bn An nn cn (NI (X : Int) B i) (64) ?_ b6 A6 n6 c6 ((10 : Int)) (1) ?_ ?_).mono ?_); (exact (ho.keep hk).iz); (exact (h6.keep hk).iz); (omega); rintro e wr ⟨b10, A10, n10, c10, rfl, h10, hbr⟩
          have hz := hK.out _ _ ⟨b10, A10, n10, c10, rfl, h10⟩ hbr
          simp only [dq0, dq1] at hz
          exact hz⟩
      · exact .inl ⟨by simp, by simp, fun xf wq hk hbl hd K hK => by
          (try dsimp only)
          go_simp
          exact hK.out (strV B) _ rfl (brefl _)⟩
      · exact .inl ⟨by simp, by simp, fun xf wq hk hbl hd K hK => by
          (try dsimp only)
          go_simp
          exact hK.out (.int .i64 (i : Nat)) _ rfl (brefl _)⟩
      · exact .inl ⟨by simp, by simp, fun xf wq hk hbl hd K hK => by
          have dq3 : xf 3 = strV B := hd ⟨3, .data⟩ (by simp) rfl
          have dq4 : xf 4 = .int .i64 (i : Nat) := hd ⟨4, .data⟩ (by simp) rfl
          (try dsimp only); (try simp only [dq3, dq4])
          go_simp
          have hz := hK.out (.int .u8 (dn : Nat)) _ rfl (brefl _)
          simp only [dq3, dq4] at hz
          exact hz⟩
      · exact .inl ⟨by simp, by simp, fun xf wq hk hbl hd K hK => by
          have dq5 : xf 5 = .int .u8 (dn : Nat) := hd ⟨5, .data⟩ (by simp) rfl
          (try dsimp only); (try simp only [dq5])
          go_simp
          have hz := hK.out (.int .u8 (v : Nat)) _ rfl (brefl _)
          simp only [dq5] at hz
          exact hz⟩
      · exact .inl ⟨by simp, by simp, fun xf wq hk hbl hd K hK => by
          have dq6 : xf 6 = .int .u8 (v : Nat) := hd ⟨6, .data⟩ (by simp) rfl
          (try dsimp only); (try simp only [dq6])
          go_simp
          have hz := hK.out (.int .i64 (v : Nat)) _ rfl (brefl _)
          simp only [dq6] at hz
          exact hz⟩
      · exact .inl ⟨by simp, by simp, fun xf wq hk hbl hd K hK => by
          have dq7 : xf 7 = .int .i64 (v : Nat) := hd ⟨7, .data⟩ (by simp) rfl
          (try dsimp only); (try simp only [dq7])
          go_simp
          go_at_call 53
          (with_reducible refine (i_of1 _ ((v : Nat)) ?_ ?_).mono ?_); (omega); (omega); rintro e wr ⟨b11, A11, n11, c11, rfl, h11, hbr⟩
          have hz := hK.out _ _ ⟨b11, A11, n11, c11, rfl, h11⟩ hbr
          simp only [dq7] at hz
          exact hz⟩
      · exact .inl ⟨by simp, by simp, fun xf wq hk hbl hd K hK => by
          obtain ⟨b10, A10, n10, c10, dq2, h10⟩ : VI ((NI (X : Int) B i) * ((10 : Int))) ((64) + (1)) (xf 2) wq := hd ⟨2, .data⟩ (by simp) rfl
          obtain ⟨b11, A11, n11, c11, dq8, h11⟩ : VI (((v : Nat) : Int)) (1) (xf 8) wq := hd ⟨8, .data⟩ (by simp) rfl
          (try dsimp only); (try simp only [dq2, dq8])
          go_simp
          go_at_call 52
          (with_reducible refine (i_add _ b10 A10 n10 c10 ((NI (X : Int) B i) * ((10 : Int))) ((64) + (1)) ?_ b11 A11 n11 c11 (((v : Nat) : Int)) (1) ?_ ?_).mono ?_); (exact h10.iz); (exact h11.iz); (omega); rintro e wr ⟨b12, A12, n12, c12, rfl, h12, hbr⟩
          have hz := hK.out _ _ ⟨b12, A12, n12, c12, rfl, h12⟩ hbr
          simp only [dq2, dq8] at hz
          exact hz⟩
      · exact .inr (.inr (.inr ⟨⟨w3.heap.size, 10, 0, 77, #[.bool bn, .slice An nn cn], CI (((NI (X : Int) B i) * ((10 : Int))) + (((v : Nat) : Int))) (((64) + (1)) + (1) + 1)⟩, by simp, rfl, by simp, by simp, (show KT 77 = false by decide), fun _ _ => True.intro, fun xf wq hblk hd => by
          obtain ⟨b12, A12, n12, c12, dq9, h12⟩ : VI (((NI (X : Int) B i) * ((10 : Int))) + (((v : Nat) : Int))) (((64) + (1)) + (1) + 1) (xf 9) wq := hd ⟨9, .data⟩ (by simp) rfl
          dsimp only at hblk
          refine ⟨[.bool b12, .slice A12 n12 c12], fun w' hk => ⟨b12, A12, n12, c12, rfl, h12.keep hk⟩, fun K hK => ?_⟩
          have hc0 : wq.cell? ⟨w3.heap.size, 0, none⟩ = some (.bool bn) := hblk.cell 0
          have hc1 : wq.cell? ⟨w3.heap.size, 1, none⟩ = some (.slice An nn cn) := hblk.cell 1
          have hf0 : wq.frozen? ⟨w3.heap.size, 0, none⟩ = false := hblk.frozen 0
          have hf1 : wq.frozen? ⟨w3.heap.size, 1, none⟩ = false := hblk.frozen 1
          (try dsimp only)
          simp only [dq9]
          go_simp
          have hz := hK.out undef
          simp only [dq9] at hz
          exact hz⟩))
      clear cx4aa cx4ab lx4aa lx4ab lx4ac lx4ad cx8a lx8a
      intro y9 w9 kq9 hbl9 lw9 how hrr hfl hds
      replace h6 := h6.keep kq9
      replace ho := ho.keep kq9
      replace hp := hp.keep kq9
      replace hkp := hkp.trans kq9
      obtain ⟨_, z9_0, ez, _⟩ := how _ (List.Mem.head _)
      obtain rfl := ez (by simp)
      dsimp only at z9_0
      obtain ⟨_, z9_1, _, ez⟩ := how _ (List.Mem.tail _ (List.Mem.head _))
      obtain ⟨b12, A12, n12, c12, rfl, h12⟩ := ez (by simp)
      dsimp only at z9_1
      obtain ⟨_, z9_2, ez, _⟩ := how _ (List.Mem.tail _ (List.Mem.tail _ (List.Mem.head _)))
      obtain rfl := ez (by simp)
      dsimp only at z9_2
      obtain ⟨_, z9_3, ez, _⟩ := how _ (List.Mem.tail _ (List.Mem.tail _ (List.Mem.tail _ (List.Mem.head _))))
      obtain rfl := ez (by simp)
      dsimp only at z9_3
      (try dsimp only)
      clear hrr hfl how hds 
      clear x1a x4a x8a x8b
      have bw9 := hbw.trans hbl9
      have cz9_1_0 : w9.cell? ⟨w3.heap.size, 0, none⟩ = some (.bool b12) := z9_1.cell 0
      have cz9_1_1 : w9.cell? ⟨w3.heap.size, 1, none⟩ = some (.slice A12 n12 c12) := z9_1.cell 1
      have lz9_1 := lts0 z9_1.lt
      have cz9_2_0 : w9.cell? ⟨w7.heap.size, 0, none⟩ = some (.bool b6) := z9_2.cell 0
      have cz9_2_1 : w9.cell? ⟨w7.heap.size, 1, none⟩ = some (.slice A6 n6 c6) := z9_2.cell 1
      have lz9_2 := lts0 z9_2.lt
      have cz9_3_0 : w9.cell? ⟨w7.heap.size + 1, 0, none⟩ = some (.bool bs) := z9_3.cell 0
      have cz9_3_1 : w9.cell? ⟨w7.heap.size + 1, 1, none⟩ = some (.slice As ns cs) := z9_3.cell 1
      obtain ⟨lz9_3_0, lz9_3_1, lz9_3_2, lz9_3_3⟩ := lts1 z9_3.lt
      go_wp2_with fail
      (with_reducible refine (i_mul _ bs As ns cs (((10 ^ i : Nat) : Int)) (64) ?_ b6 A6 n6 c6 ((10 : Int)) (1) ?_ ?_).mono ?_); (exact hp.iz); (exact h6.iz); (omega); rintro e w14 ⟨b14, A14, n14, c14, rfl, h14, q14⟩
      clear cz9_1_0 cz9_1_1 lz9_1 cz9_2_0 cz9_2_1 lz9_2 cz9_3_0 cz9_3_1 lz9_3_0 lz9_3_1 lz9_3_2 lz9_3_3
      replace h6 := h6.belw q14
      replace ho := ho.belw q14
      replace hp := hp.belw q14
      replace h12 := h12.belw q14
      replace hkp := hkp.below q14
      replace z9_0 := z9_0.b q14
      replace z9_1 := z9_1.b q14
      replace z9_2 := z9_2.b q14
      replace z9_3 := z9_3.b q14
      have bw14 := bw9.trans (q14.mono bw9.size)
      have lw14 := q14.size
      clear q14 bw9
      obtain ⟨cz9_3_0, cz9_3_1⟩ := z9_3.c2
      have fz9_3 := z9_3.f2
      obtain ⟨lz9_3_0, lz9_3_1, lz9_3_2, lz9_3_3⟩ := lts1 z9_3.lt
      go_wp2_with fail
      clear cz9_3_0 fz9_3 cz9_3_1 lz9_3_0 lz9_3_1 lz9_3_2 lz9_3_3
      have p15 := (((Kp.refl w14).sb (w7.heap.size + 1) 0 z9_3.box (by decide) (.bool b14)).sb (w7.heap.size + 1) 1 (z9_3.box.set ⟨w7.heap.size + 1, 0, none⟩ (.bool b14)) (by decide) (.slice A14 n14 c14))
      have bw15 := ((bw14.sc (w7.heap.size + 1) 0 (by omega) (.bool b14)).sc (w7.heap.size + 1) 1 (by omega) (.slice A14 n14 c14))
      replace z9_0 : Blk ((w14.setCell ⟨w7.heap.size + 1, 0, none⟩ (.bool b14)).setCell ⟨w7.heap.size + 1, 1, none⟩ (.slice A14 n14 c14)) w.heap.size 24 #[.bool false, .slice none 0 0, .slice none 0 0] := ((z9_0.fr (w7.heap.size + 1) 0 (by omega) (.bool b14)).fr (w7.heap.size + 1) 1 (by omega) (.slice A14 n14 c14))
      replace z9_1 : Blk ((w14.setCell ⟨w7.heap.size + 1, 0, none⟩ (.bool b14)).setCell ⟨w7.heap.size + 1, 1, none⟩ (.slice A14 n14 c14)) w3.heap.size 77 #[.bool b12, .slice A12 n12 c12] := ((z9_1.fr (w7.heap.size + 1) 0 (by omega) (.bool b14)).fr (w7.heap.size + 1) 1 (by omega) (.slice A14 n14 c14))
      replace z9_2 : Blk ((w14.setCell ⟨w7.heap.size + 1, 0, none⟩ (.bool b14)).setCell ⟨w7.heap.size + 1, 1, none⟩ (.slice A14 n14 c14)) w7.heap.size 77 #[.bool b6, .slice A6 n6 c6] := ((z9_2.fr (w7.heap.size + 1) 0 (by omega) (.bool b14)).fr (w7.heap.size + 1) 1 (by omega) (.slice A14 n14 c14))
      replace z9_3 : Blk ((w14.setCell ⟨w7.heap.size + 1, 0, none⟩ (.bool b14)).setCell ⟨w7.heap.size + 1, 1, none⟩ (.slice A14 n14 c14)) (w7.heap.size + 1) 77 #[.bool b14, .slice A14 n14 c14] := ((z9_3.set_at 0 (.bool b14) #[.bool b14, .slice As ns cs] (by simp)).set_at 1 (.slice A14 n14 c14) #[.bool b14, .slice A14 n14 c14] (by simp))
      have lw15 : w14.heap.size + 0 ≤ ((w14.setCell ⟨w7.heap.size + 1, 0, none⟩ (.bool b14)).setCell ⟨w7.heap.size + 1, 1, none⟩ (.slice A14 n14 c14)).heap.size := by simp
      generalize hE15 : ((w14.setCell ⟨w7.heap.size + 1, 0, none⟩ (.bool b14)).setCell ⟨w7.heap.size + 1, 1, none⟩ (.slice A14 n14 c14)) = w15 at p15 bw15 lw15 z9_0 z9_1 z9_2 z9_3 ⊢
      clear hE15
      replace h6 := h6.keep p15
      replace ho := ho.keep p15
      replace hp := hp.keep p15
      replace h12 := h12.keep p15
      replace h14 := h14.keep p15
      replace hkp := hkp.trans p15
      clear bw14
      have hN2 := h12.resz (K := 64) (by rw [HNI.out]; exact HB1.out)
      rw [HNI.out] at hN2
      have hS2 := h14.resz (K := 64) (by rw [ten_succ]; exact HB2.out)
      rw [ten_succ] at hS2
      go_roundw
      case rel => exact ⟨i + 1, b12, A12, n12, c12, b14, A14, n14, c14, by go_num, by omega, hN2, hS2, hkp, bw15, by omega, z9_0, z9_1, z9_2, z9_3⟩
      case measure => simp [intOf]; omega
    · have hiN : i = B.length := by omega
      subst hiN
      obtain ⟨cx4aa, cx4ab⟩ := x4a.c2
      obtain ⟨lx4aa, lx4ab, lx4ac, lx4ad⟩ := lts0 x4a.lt
      go_wp2_with fail
      (with_reducible refine (i_neg _ bn An nn cn (NI (X : Int) B B.length) (64) ?_ ?_).mono ?_); (exact ho.iz); (omega); rintro e w9 ⟨b9, A9, n9, c9, rfl, h9, q9⟩
      clear cx4aa cx4ab lx4aa lx4ab lx4ac lx4ad
      replace h6 := h6.belw q9
      replace ho := ho.belw q9
      replace hp := hp.belw q9
      replace hkp := hkp.below q9
      replace x1a := x1a.b q9
      replace x4a := x4a.b q9
      replace x8a := x8a.b q9
      replace x8b := x8b.b q9
      have bw9 := hbw.trans (q9.mono hbw.size)
      have lw9 := q9.size
      clear q9
      obtain ⟨cx4aa, cx4ab⟩ := x4a.c2
      have fx4a := x4a.f2
      obtain ⟨lx4aa, lx4ab, lx4ac, lx4ad⟩ := lts0 x4a.lt
      have cx8b := x8b.c2
      have lx8b := lts1 x8b.lt
      go_wp2_with fail
      clear cx4aa fx4a cx4ab lx4aa lx4ab lx4ac lx4ad cx8b lx8b
      have p10 := (((Kp.refl w9).sb w3.heap.size 0 x4a.box (by decide) (.bool b9)).sb w3.heap.size 1 (x4a.box.set ⟨w3.heap.size, 0, none⟩ (.bool b9)) (by decide) (.slice A9 n9 c9))
      have bw10 := ((bw9.sc w3.heap.size 0 (by omega) (.bool b9)).sc w3.heap.size 1 (by omega) (.slice A9 n9 c9))
      replace x1a := ((x1a.fr w3.heap.size 0 (by omega) (.bool b9)).fr w3.heap.size 1 (by omega) (.slice A9 n9 c9))
      replace x4a := ((x4a.set_at 0 (.bool b9) #[.bool b9, .slice An nn cn] (by simp)).set_at 1 (.slice A9 n9 c9) #[.bool b9, .slice A9 n9 c9] (by simp))
      replace x8a := ((x8a.fr w3.heap.size 0 (by omega) (.bool b9)).fr w3.heap.size 1 (by omega) (.slice A9 n9 c9))
      replace x8b := ((x8b.fr w3.heap.size 0 (by omega) (.bool b9)).fr w3.heap.size 1 (by omega) (.slice A9 n9 c9))
      have lw10 : w9.heap.size + 0 ≤ ((w9.setCell ⟨w3.heap.size, 0, none⟩ (.bool b9)).setCell ⟨w3.heap.size, 1, none⟩ (.slice A9 n9 c9)).heap.size := by simp
      generalize hE10 : ((w9.setCell ⟨w3.heap.size, 0, none⟩ (.bool b9)).setCell ⟨w3.heap.size, 1, none⟩ (.slice A9 n9 c9)) = w10 at p10 bw10 lw10 x1a x4a x8a x8b ⊢
      clear hE10
      replace h6 := h6.keep p10
      replace ho := ho.keep p10
      replace hp := hp.keep p10
      replace h9 := h9.keep p10
      replace hkp := hkp.trans p10
      clear bw9
      (with_reducible refine (f_form _ b9 A9 n9 c9 (-(NI (X : Int) B B.length)) ((64)) ?_ bs As ns cs (((10 ^ B.length : Nat) : Int)) (64) ?_ (decQ F B) 64 ?_ ?_ ?_ ?_).mono ?_); (exact h9.iz); (exact hp.iz); (exact ten_ne _); (exact HQ.out); (exact HSQ.out); (omega); rintro e w11 ⟨b11, A11, n11, c11, A'11, n'11, c'11, rfl, h11, q11⟩
      replace h6 := h6.belw q11
      replace ho := ho.belw q11
      replace hp := hp.belw q11
      replace h9 := h9.belw q11
      replace hkp := hkp.below q11
      replace x1a := x1a.b q11
      replace x4a := x4a.b q11
      replace x8a := x8a.b q11
      replace x8b := x8b.b q11
      have bw11 := bw10.trans (q11.mono bw10.size)
      have lw11 := q11.size
      clear q11 bw10
      have cx1a := x1a.c3
      have fx1a := x1a.f3
      have lx1a := lts0 x1a.lt
      go_wp2_with fail
      refine bodyPost_ret (v := .tuple #[.agg #[.bool b11, .slice A11 n11 c11, .slice A'11 n'11 c'11], .nilIface]) (by simp [results, Tryz.results59, go_sem, *] <;> trivial) rfl ?_
      exact ⟨_, _, _, _, _, _, _, rfl, (h11).keep ((((Kp.refl w11).sb w.heap.size 0 x1a.box (by decide) (.bool b11)).sb w.heap.size 1 (x1a.box.set ⟨w.heap.size, 0, none⟩ (.bool b11)) (by decide) (.slice A11 n11 c11)).sb w.heap.size 2 ((x1a.box.set ⟨w.heap.size, 0, none⟩ (.bool b11)).set ⟨w.heap.size, 1, none⟩ (.slice A11 n11 c11)) (by decide) (.slice A'11 n'11 c'11)), (((bw11.sc w.heap.size 0 (by omega) (.bool b11)).sc w.heap.size 1 (by omega) (.slice A11 n11 c11)).sc w.heap.size 2 (by omega) (.slice A'11 n'11 c'11))⟩
theorem f_dec_ok_f (w : World) (F B : List UInt8) (hFB : F.length + B.length ≤ 64) (hm : headM F = false) (ho : okZ (tailS F) = true) (hz : 0 ≤ valZ (tailS F)) (hB : B ≠ []) (ha : B.all isDg = true) :
    Calls Tryz.prog 59 #[strV F, strV B] w (RetFe w .nilIface (decQ F B) 64) := by
  have hmm : headM F = false := hm
  obtain ⟨T, hT⟩ : ∃ T, tailS F = T := ⟨_, rfl⟩
  have HM := Lib.hid hmm
  have HT := Lib.hid hT
  have hTF : T.length ≤ F.length := by rw [← hT]; exact tailS_len F
  have hT6 : T.length ≤ 65536 := by omega
  have hB6 : B.length ≤ 1000000 := by omega
  have htlB := toList_v B
  have htl1 := toList_v []
  have hszB := size_v B
  have HO := Lib.hid (show okZ T = true by rw [← hT]; exact ho)
  have hs : 0 ≤ (valZ (tailS F)).sign := sign_nn hz
  obtain ⟨s, hs1⟩ : ∃ s, (valZ T).sign = s := ⟨_, rfl⟩
  have es : (s < 0) = False := by simp; rw [← hs1, ← hT]; exact hs
  have HS := Lib.hid hs1
  have HX := Lib.hid (trim_dg.2 ha)
  obtain ⟨X, hX⟩ : ∃ X : Nat, valZ T = (X : Int) := ⟨(valZ T).toNat, by rw [← hT]; omega⟩
  obtain ⟨J, hJ, hX2⟩ : ∃ J, J ≤ T.length ∧ X < 10 ^ J := dec_lt (by rw [← hT]; exact ho) hX
  have HA := Lib.hid ha
  have HX3 := Lib.hid (And.intro hX2 (show J + B.length ≤ 64 by omega))
  have HX2 := Lib.hid hX
  have HQ := Lib.hid (show Rat.divInt (NI (X : Int) B B.length) ((10 ^ B.length : Nat) : Int) = decQ F B by
    unfold decQ decN; rw [hm, hT, hX, NI_len]; push_cast; rfl)
  have hB64 : B.length ≤ 64 := by omega
  have HSQ := Lib.hid (show Sz (decQ F B) 64 by
    rw [← HQ.out]
    exact Sz_divInt (by exact NI_lt HX3.out.1 ha (Nat.le_refl _) HX3.out.2) (ten_lt hB64) (by decide))
  clear hmm hm hT ho hs hs1 ha hz hX hX2 hJ
  obtain ⟨y, ys, hyy⟩ := List.exists_cons_of_ne_nil hB
  have hBe : ((⟨B.toArray⟩ : ByteArray) == ⟨#[]⟩) = false := by rw [hyy]; rfl
  have hBl : (B == []) = false := by rw [hyy]; rfl
  have hBp : 0 < B.length := by rw [hyy]; simp
  clear hyy
  go_enter Tryz.func59, Tryz.ntmps59
  go_wp2_with fail
  (with_reducible refine (prefix_v _ (F) false HM.out).mono ?_); rintro e w1 ⟨rfl, hb1⟩
  have q1 := hb1.q1
  have x1a : Blk w1 w.heap.size 24 #[.bool false, .slice none 0 0, .slice none 0 0] := (blkAt _ _ _ (by simp)).below hb1 (by simp)
  have bw1 := (brefl w).trans (q1.mono (brefl w).size)
  have lw1 := hb1.l1
  clear q1
  go_wp2_with fail
  (with_reducible refine (tprefix_v _ (F) T HT.out).mono ?_); rintro e w2 ⟨rfl, q2⟩
  replace x1a := x1a.b q2
  have bw2 := bw1.trans (q2.mono bw1.size)
  have lw2 := q2.size
  clear q2 bw1
  go_wp2_with fail
  (with_reducible refine (i_parse_ok _ (T) (by omega) HO.out).mono ?_); rintro e w3 ⟨b3, A3, n3, c3, rfl, h3, q3⟩
  replace x1a := x1a.b q3
  have bw3 := bw2.trans (q3.mono bw2.size)
  have lw3 := q3.size
  clear q3 bw2
  go_wp2_with fail
  (with_reducible refine (i_sign_e _ b3 A3 n3 c3 (valZ T) (T.length) ?_ (s) ?_ ?_).mono ?_); (exact (h3.belw ((Below.refl _ _).alloc (Nat.le_refl _) _)).iz); (exact HS.out); (omega); rintro e w4 ⟨rfl, hb4⟩
  have q4 := hb4.q1
  replace h3 := h3.belw q4
  replace x1a := x1a.b q4
  have x4a : Blk w4 w3.heap.size 77 #[.bool b3, .slice A3 n3 c3] := (blkAt _ _ _ (by simp)).below hb4 (by simp)
  have bw4 := bw3.trans (q4.mono bw3.size)
  have lw4 := hb4.l1
  clear q4 bw3
  go_wp2_with fail
  (with_reducible refine (trim_v _ (B) ([]) (by omega) HX.out).mono ?_); rintro e w5 ⟨rfl, q5⟩
  replace h3 := h3.belw q5
  replace x1a := x1a.b q5
  replace x4a := x4a.b q5
  have bw5 := bw4.trans (q5.mono bw4.size)
  have lw5 := q5.size
  clear q5 bw4
  go_wp2_with fail
  (with_reducible refine (i_of1 _ (10) ?_ ?_).mono ?_); (omega); (omega); rintro e w6 ⟨b6, A6, n6, c6, rfl, h6, q6⟩
  replace h3 := h3.belw q6
  replace x1a := x1a.b q6
  replace x4a := x4a.b q6
  have bw6 := bw5.trans (q6.mono bw5.size)
  have lw6 := q6.size
  clear q6 bw5
  go_wp2_with fail
  (with_reducible refine (f_one _).mono ?_); rintro e w7 ⟨b7, A7, n7, c7, rfl, h7, q7⟩
  replace h3 := h3.belw q7
  replace h6 := h6.belw q7
  replace x1a := x1a.b q7
  replace x4a := x4a.b q7
  have bw7 := bw6.trans (q7.mono bw6.size)
  have lw7 := q7.size
  clear q7 bw6
  go_wp2_with fail
  have p8 := (((Kp.refl w7).alloc (.cells #[.bool b6, .slice A6 n6 c6] 77)).alloc (.cells #[.bool b7, .slice A7 n7 c7] 77))
  have bw8 := ((bw7.alloc (by first | omega | (simp <;> omega)) (.cells #[.bool b6, .slice A6 n6 c6] 77)).alloc (by first | omega | (simp <;> omega)) (.cells #[.bool b7, .slice A7 n7 c7] 77))
  have x8a : Blk ((w7.alloc (.cells #[.bool b6, .slice A6 n6 c6] 77)).alloc (.cells #[.bool b7, .slice A7 n7 c7] 77)) w7.heap.size 77 #[.bool b6, .slice A6 n6 c6] := ((blkAt _ _ _ (by simp)).alloc (.cells #[.bool b7, .slice A7 n7 c7] 77))
  have x8b : Blk ((w7.alloc (.cells #[.bool b6, .slice A6 n6 c6] 77)).alloc (.cells #[.bool b7, .slice A7 n7 c7] 77)) (w7.heap.size + 1) 77 #[.bool b7, .slice A7 n7 c7] := (blkAt _ _ _ (by simp))
  replace x1a := ((x1a.alloc (.cells #[.bool b6, .slice A6 n6 c6] 77)).alloc (.cells #[.bool b7, .slice A7 n7 c7] 77))
  replace x4a := ((x4a.alloc (.cells #[.bool b6, .slice A6 n6 c6] 77)).alloc (.cells #[.bool b7, .slice A7 n7 c7] 77))
  have lw8 : w7.heap.size + 2 ≤ ((w7.alloc (.cells #[.bool b6, .slice A6 n6 c6] 77)).alloc (.cells #[.bool b7, .slice A7 n7 c7] 77)).heap.size := by simp
  generalize hE8 : ((w7.alloc (.cells #[.bool b6, .slice A6 n6 c6] 77)).alloc (.cells #[.bool b7, .slice A7 n7 c7] 77)) = w8 at p8 bw8 lw8 x8a x8b x1a x4a ⊢
  clear hE8
  replace h3 := h3.keep p8
  replace h6 := h6.keep p8
  replace h7 := h7.keep p8
  clear bw7
  go_loopw [43] (fun iv wr => ∃ (i : Nat) (bn : Bool) (An : Option Addr) (nn cn : Nat) (bs : Bool) (As : Option Addr) (ns cs : Nat), iv = .int .i64 (i : Nat) ∧ i ≤ B.length ∧ IV wr bn An nn cn (NI (X : Int) B i) 64 ∧ IV wr bs As ns cs ((10 ^ i : Nat) : Int) 64 ∧ Kp w8 wr ∧ Below w.heap.size w wr ∧ w8.heap.size ≤ wr.heap.size ∧ Blk wr w.heap.size 24 #[.bool false, .slice none 0 0, .slice none 0 0] ∧ Blk wr w3.heap.size 77 #[.bool bn, .slice An nn cn] ∧ Blk wr w7.heap.size 77 #[.bool b6, .slice A6 n6 c6] ∧ Blk wr (w7.heap.size + 1) 77 #[.bool bs, .slice As ns cs]) (fun iv _ => B.length - (intOf iv).toNat)
  case atStart => exact ⟨0, b3, A3, n3, c3, b7, A7, n7, c7, rfl, Nat.zero_le _, (by rw [NI_zero, ← HX2.out]; exact h3.mono (by omega)), (by rw [show ((10 ^ 0 : Nat) : Int) = 1 from rfl]; exact h7.mono (by omega)), Kp.refl _, bw8, Nat.le_refl _, x1a, x4a, x8a, x8b⟩
  case round =>
    clear x1a
    clear x4a
    clear x8a
    clear x8b
    obtain ⟨i, bn, An, nn, cn, bs, As, ns, cs, rfl, hi, ho, hp, hkp, hbw, hlw, x1a, x4a, x8a, x8b⟩ := hrel
    replace h3 := h3.keep hkp
    replace h6 := h6.keep hkp
    replace h7 := h7.keep hkp
    by_cases hlt : i < B.length
    · obtain ⟨d, hd⟩ : ∃ d, B[i] = d := ⟨_, rfl⟩
      have hdg : isDg d = true := List.all_eq_true.1 HA.out d (by rw [← hd]; exact List.getElem_mem _)
      have hget : ∀ h, (⟨B.toArray⟩ : ByteArray)[i]'h = d := fun h => hd
      have h8 : 48 ≤ d.toNat ∧ d.toNat ≤ 57 := by unfold isDg at hdg; rw [Bool.and_eq_true, decide_eq_true_eq, decide_eq_true_eq] at hdg; exact hdg
      obtain ⟨dn, hdn⟩ : ∃ dn, d.toNat = dn := ⟨_, rfl⟩
      obtain ⟨v, hv⟩ : ∃ v, dn - 48 = v := ⟨_, rfl⟩
      rw [hdn] at h8
      have e1 : (dn : Int) - 48 = (v : Int) := by omega
      have hv9 : v ≤ 9 := by omega
      have h81 := h8.1
      have h82 := h8.2
      have HD : dval d = v := by unfold dval; rw [hdn]; exact hv
      have HNI := Lib.hid (show NI (X : Int) B i * 10 + (v : Nat) = NI (X : Int) B (i + 1) by rw [← NI_succ _ _ _ hlt, hd, HD])
      have HB1 := Lib.hid (NI_lt HX3.out.1 HA.out (show i + 1 ≤ B.length by omega) HX3.out.2)
      have HB2 := Lib.hid (ten_lt (i := i + 1) (by omega))
      have hw8 : IntKind.u8.wrap (v : Int) = (v : Int) := IntWalk.u8_in _ ⟨by omega, by omega⟩
      have hw64 : IntKind.i64.wrap (v : Int) = (v : Int) := IntWalk.i64_in _ ⟨by omega, by omega⟩
      have hi0 : (0 : Int) ≤ (i : Int) := by omega
      have hiL : (i : Int) < (B.length : Int) := by omega
      clear hd hdg h8 hv HD
      obtain ⟨cx4aa, cx4ab⟩ := x4a.c2
      obtain ⟨lx4aa, lx4ab, lx4ac, lx4ad⟩ := lts0 x4a.lt
      have cx8a := x8a.c2
      have lx8a := lts0 x8a.lt
      go_wp2_with fail
      refine wp_region_lin (B := w.heap.size) (fr := fun xf => ⟨List.toArray (strV T :: strV B :: undef :: undef :: .pointer (some ⟨w.heap.size, 0, none⟩) :: .nilIface :: .bool false :: .pointer (some ⟨w3.heap.size, 0, none⟩) :: .nilIface :: .pointer (some ⟨w7.heap.size, 0, none⟩) :: .pointer (some ⟨w7.heap.size + 1, 0, none⟩) :: .int .i64 (i : Nat) :: strV F :: .bool false :: strV F :: strV T :: .tuple #[.agg #[.bool b3, .slice A3 n3 c3], .nilIface] :: strV T :: .tuple #[.agg #[.bool b3, .slice A3 n3 c3], .nilIface] :: .agg #[.bool b3, .slice A3 n3 c3] :: .nilIface :: .nilIface :: .bool false :: .bool false :: .agg #[.bool b3, .slice A3 n3 c3] :: .int .i64 s :: .bool false :: .bool false :: .bool false :: strV B :: .bool false :: .bool false :: .bool false :: strV B :: strV [] :: .bool false :: .bool false :: undef :: undef :: .agg #[.bool b6, .slice A6 n6 c6] :: .agg #[.bool b7, .slice A7 n7 c7] :: strV B :: .int .i64 (B.length : Nat) :: .int .i64 (i : Nat) :: .bool true :: .int .i64 (i : Nat) :: xf 0 :: xf 1 :: xf 2 :: xf 3 :: xf 4 :: xf 5 :: xf 6 :: xf 7 :: xf 8 :: xf 9 :: u56 :: u57 :: u58 :: u59 :: undef :: undef :: undef :: undef :: undef :: undef :: []), []⟩) (R := fun ri => List.getD ((PEq (.agg #[.bool bn, .slice An nn cn])) :: (PEq (.agg #[.bool b6, .slice A6 n6 c6])) :: (VI ((NI (X : Int) B i) * ((10 : Int))) ((64) + (1))) :: (PEq (strV B)) :: (PEq (.int .i64 (i : Nat))) :: (PEq (.int .u8 (dn : Nat))) :: (PEq (.int .u8 (v : Nat))) :: (PEq (.int .i64 (v : Nat))) :: (VI (((v : Nat) : Int)) (1)) :: (VI (((NI (X : Int) B i) * ((10 : Int))) + (((v : Nat) : Int))) (((64) + (1)) + (1) + 1)) :: PAny :: []) ri (fun _ _ => True)) (es := []) (ow := [⟨w.heap.size, 11, 0, 24, #[.bool false, .slice none 0 0, .slice none 0 0], CAny⟩, ⟨w3.heap.size, 10, 0, 77, #[.bool bn, .slice An nn cn], CI (((NI (X : Int) B i) * ((10 : Int))) + (((v : Nat) : Int))) (((64) + (1)) + (1) + 1)⟩, ⟨w7.heap.size, 11, 0, 77, #[.bool b6, .slice A6 n6 c6], CAny⟩, ⟨w7.heap.size + 1, 11, 0, 77, #[.bool bs, .slice As ns cs], CAny⟩]) (x0 := (upd (upd (upd (upd (upd (upd (upd (upd (upd (upd (fun _ => undef) 0 (u46)) 1 (u47)) 2 (u48)) 3 (u49)) 4 (u50)) 5 (u51)) 6 (u52)) 7 (u53)) 8 (u54)) 9 (u55))) (by kernel_rfl)
        (each_of ⟨fun _ _ => rfl, fun _ _ => rfl, fun _ _ => rfl, fun _ _ => rfl, fun _ _ => rfl, fun _ _ => rfl, fun _ _ => rfl, fun _ _ => rfl, fun _ _ => rfl, fun _ _ => rfl, fun _ _ => rfl, trivial⟩) (each_of (acyc_from _ 0 (by kernel_rfl))) (AllStab.get _ ⟨stEq _, stEq _, stI _ _, stEq _, stEq _, stEq _, stEq _, stEq _, stI _ _, stI _ _, stAny, trivial⟩)
        (fun _ h => nomatch h) (fmc ⟨scAny, fmc ⟨scI _ _, fmc ⟨scAny, fmc ⟨scAny, fun _ h => nomatch h⟩⟩⟩⟩) (fun _ h => nomatch h) hbw.size
        (fmc ⟨⟨x1a, by show w.heap.size ≤ w.heap.size; omega⟩, fmc ⟨⟨x4a, by show w.heap.size ≤ w3.heap.size; omega⟩, fmc ⟨⟨x8a, by show w.heap.size ≤ w7.heap.size; omega⟩, fmc ⟨⟨x8b, by show w.heap.size ≤ w7.heap.size + 1; omega⟩, fun _ h => nomatch h⟩⟩⟩⟩) (ownDist (by simp <;> omega))
        (each_of ⟨?_, ?_, ?_, ?_, ?_, ?_, ?_, ?_, ?_, ?_, ?_, trivial⟩) ?_
      · exact .inl ⟨by simp, by simp, fun xf wq hk hbl hd K hK => by
          have y : Blk wq w3.heap.size 77 #[.bool bn, .slice An nn cn] := hbl _ (List.Mem.tail _ (List.Mem.head _)) (by simp [Region.binds])
          obtain ⟨hcl0, hcl1⟩ := y.c2
          (try dsimp only)
          go_simp
          exact hK.out (.agg #[.bool bn, .slice An nn cn]) _ rfl (brefl _)⟩
      · exact .inl ⟨by simp, by simp, fun xf wq hk hbl hd K hK => by
          have y : Blk wq w7.heap.size 77 #[.bool b6, .slice A6 n6 c6] := hbl _ (List.Mem.tail _ (List.Mem.tail _ (List.Mem.head _))) (by simp [Region.binds])
          obtain ⟨hcl0, hcl1⟩ := y.c2
          (try dsimp only)
          go_simp
          exact hK.out (.agg #[.bool b6, .slice A6 n6 c6]) _ rfl (brefl _)⟩
      · exact .inl ⟨by simp, by simp, fun xf wq hk hbl hd K hK => by
          have dq0 : xf 0 = .agg #[.bool bn, .slice An nn cn] := hd ⟨0, .data⟩ (by simp) rfl
          have dq1 : xf 1 = .agg #[.bool b6, .slice A6 n6 c6] := hd ⟨1, .data⟩ (by simp) rfl
          (try dsimp only); (try simp only [dq0, dq1])
          go_simp
          go_at_call 50
          (with_reducible refine (i_mul _ bn An nn cn (NI (X : Int) B i) (64) ?_ b6 A6 n6 c6 ((10 : Int)) (1) ?_ ?_).mono ?_); (exact (ho.keep hk).iz); (exact (h6.keep hk).iz); (omega); rintro e wr ⟨b10, A10, n10, c10, rfl, h10, hbr⟩
          have hz := hK.out _ _ ⟨b10, A10, n10, c10, rfl, h10⟩ hbr
          simp only [dq0, dq1] at hz
          exact hz⟩
      · exact .inl ⟨by simp, by simp, fun xf wq hk hbl hd K hK => by
          (try dsimp only)
          go_simp
          exact hK.out (strV B) _ rfl (brefl _)⟩
      · exact .inl ⟨by simp, by simp, fun xf wq hk hbl hd K hK => by
          (try dsimp only)
          go_simp
          exact hK.out (.int .i64 (i : Nat)) _ rfl (brefl _)⟩
      · exact .inl ⟨by simp, by simp, fun xf wq hk hbl hd K hK => by
          have dq3 : xf 3 = strV B := hd ⟨3, .data⟩ (by simp) rfl
          have dq4 : xf 4 = .int .i64 (i : Nat) := hd ⟨4, .data⟩ (by simp) rfl
          (try dsimp only); (try simp only [dq3, dq4])
          go_simp
          have hz := hK.out (.int .u8 (dn : Nat)) _ rfl (brefl _)
          simp only [dq3, dq4] at hz
          exact hz⟩
      · exact .inl ⟨by simp, by simp, fun xf wq hk hbl hd K hK => by
          have dq5 : xf 5 = .int .u8 (dn : Nat) := hd ⟨5, .data⟩ (by simp) rfl
          (try dsimp only); (try simp only [dq5])
          go_simp
          have hz := hK.out (.int .u8 (v : Nat)) _ rfl (brefl _)
          simp only [dq5] at hz
          exact hz⟩
      · exact .inl ⟨by simp, by simp, fun xf wq hk hbl hd K hK => by
          have dq6 : xf 6 = .int .u8 (v : Nat) := hd ⟨6, .data⟩ (by simp) rfl
          (try dsimp only); (try simp only [dq6])
          go_simp
          have hz := hK.out (.int .i64 (v : Nat)) _ rfl (brefl _)
          simp only [dq6] at hz
          exact hz⟩
      · exact .inl ⟨by simp, by simp, fun xf wq hk hbl hd K hK => by
          have dq7 : xf 7 = .int .i64 (v : Nat) := hd ⟨7, .data⟩ (by simp) rfl
          (try dsimp only); (try simp only [dq7])
          go_simp
          go_at_call 53
          (with_reducible refine (i_of1 _ ((v : Nat)) ?_ ?_).mono ?_); (omega); (omega); rintro e wr ⟨b11, A11, n11, c11, rfl, h11, hbr⟩
          have hz := hK.out _ _ ⟨b11, A11, n11, c11, rfl, h11⟩ hbr
          simp only [dq7] at hz
          exact hz⟩
      · exact .inl ⟨by simp, by simp, fun xf wq hk hbl hd K hK => by
          obtain ⟨b10, A10, n10, c10, dq2, h10⟩ : VI ((NI (X : Int) B i) * ((10 : Int))) ((64) + (1)) (xf 2) wq := hd ⟨2, .data⟩ (by simp) rfl
          obtain ⟨b11, A11, n11, c11, dq8, h11⟩ : VI (((v : Nat) : Int)) (1) (xf 8) wq := hd ⟨8, .data⟩ (by simp) rfl
          (try dsimp only); (try simp only [dq2, dq8])
          go_simp
          go_at_call 52
          (with_reducible refine (i_add _ b10 A10 n10 c10 ((NI (X : Int) B i) * ((10 : Int))) ((64) + (1)) ?_ b11 A11 n11 c11 (((v : Nat) : Int)) (1) ?_ ?_).mono ?_); (exact h10.iz); (exact h11.iz); (omega); rintro e wr ⟨b12, A12, n12, c12, rfl, h12, hbr⟩
          have hz := hK.out _ _ ⟨b12, A12, n12, c12, rfl, h12⟩ hbr
          simp only [dq2, dq8] at hz
          exact hz⟩
      · exact .inr (.inr (.inr ⟨⟨w3.heap.size, 10, 0, 77, #[.bool bn, .slice An nn cn], CI (((NI (X : Int) B i) * ((10 : Int))) + (((v : Nat) : Int))) (((64) + (1)) + (1) + 1)⟩, by simp, rfl, by simp, by simp, (show KT 77 = false by decide), fun _ _ => True.intro, fun xf wq hblk hd => by
          obtain ⟨b12, A12, n12, c12, dq9, h12⟩ : VI (((NI (X : Int) B i) * ((10 : Int))) + (((v : Nat) : Int))) (((64) + (1)) + (1) + 1) (xf 9) wq := hd ⟨9, .data⟩ (by simp) rfl
          dsimp only at hblk
          refine ⟨[.bool b12, .slice A12 n12 c12], fun w' hk => ⟨b12, A12, n12, c12, rfl, h12.keep hk⟩, fun K hK => ?_⟩
          have hc0 : wq.cell? ⟨w3.heap.size, 0, none⟩ = some (.bool bn) := hblk.cell 0
          have hc1 : wq.cell? ⟨w3.heap.size, 1, none⟩ = some (.slice An nn cn) := hblk.cell 1
          have hf0 : wq.frozen? ⟨w3.heap.size, 0, none⟩ = false := hblk.frozen 0
          have hf1 : wq.frozen? ⟨w3.heap.size, 1, none⟩ = false := hblk.frozen 1
          (try dsimp only)
          simp only [dq9]
          go_simp
          have hz := hK.out undef
          simp only [dq9] at hz
          exact hz⟩))
      clear cx4aa cx4ab lx4aa lx4ab lx4ac lx4ad cx8a lx8a
      intro y9 w9 kq9 hbl9 lw9 how hrr hfl hds
      replace h6 := h6.keep kq9
      replace ho := ho.keep kq9
      replace hp := hp.keep kq9
      replace hkp := hkp.trans kq9
      obtain ⟨_, z9_0, ez, _⟩ := how _ (List.Mem.head _)
      obtain rfl := ez (by simp)
      dsimp only at z9_0
      obtain ⟨_, z9_1, _, ez⟩ := how _ (List.Mem.tail _ (List.Mem.head _))
      obtain ⟨b12, A12, n12, c12, rfl, h12⟩ := ez (by simp)
      dsimp only at z9_1
      obtain ⟨_, z9_2, ez, _⟩ := how _ (List.Mem.tail _ (List.Mem.tail _ (List.Mem.head _)))
      obtain rfl := ez (by simp)
      dsimp only at z9_2
      obtain ⟨_, z9_3, ez, _⟩ := how _ (List.Mem.tail _ (List.Mem.tail _ (List.Mem.tail _ (List.Mem.head _))))
      obtain rfl := ez (by simp)
      dsimp only at z9_3
      (try dsimp only)
      clear hrr hfl how hds 
      clear x1a x4a x8a x8b
      have bw9 := hbw.trans hbl9
      have cz9_1 := z9_1.c2
      have lz9_1 := lts0 z9_1.lt
      have cz9_2 := z9_2.c2
      have lz9_2 := lts0 z9_2.lt
      obtain ⟨cz9_3_0, cz9_3_1⟩ := z9_3.c2
      obtain ⟨lz9_3_0, lz9_3_1, lz9_3_2, lz9_3_3⟩ := lts1 z9_3.lt
      go_wp2_with fail
      (with_reducible refine (i_mul _ bs As ns cs (((10 ^ i : Nat) : Int)) (64) ?_ b6 A6 n6 c6 ((10 : Int)) (1) ?_ ?_).mono ?_); (exact hp.iz); (exact h6.iz); (omega); rintro e w14 ⟨b14, A14, n14, c14, rfl, h14, q14⟩
      clear cz9_1 lz9_1 cz9_2 lz9_2 cz9_3_0 cz9_3_1 lz9_3_0 lz9_3_1 lz9_3_2 lz9_3_3
      replace h6 := h6.belw q14
      replace ho := ho.belw q14
      replace hp := hp.belw q14
      replace h12 := h12.belw q14
      replace hkp := hkp.below q14
      replace z9_0 := z9_0.b q14
      replace z9_1 := z9_1.b q14
      replace z9_2 := z9_2.b q14
      replace z9_3 := z9_3.b q14
      have bw14 := bw9.trans (q14.mono bw9.size)
      have lw14 := q14.size
      clear q14 bw9
      obtain ⟨cz9_3_0, cz9_3_1⟩ := z9_3.c2
      have fz9_3 := z9_3.f2
      obtain ⟨lz9_3_0, lz9_3_1, lz9_3_2, lz9_3_3⟩ := lts1 z9_3.lt
      go_wp2_with fail
      clear cz9_3_0 fz9_3 cz9_3_1 lz9_3_0 lz9_3_1 lz9_3_2 lz9_3_3
      have p15 := (((Kp.refl w14).sb (w7.heap.size + 1) 0 z9_3.box (by decide) (.bool b14)).sb (w7.heap.size + 1) 1 (z9_3.box.set ⟨w7.heap.size + 1, 0, none⟩ (.bool b14)) (by decide) (.slice A14 n14 c14))
      have bw15 := ((bw14.sc (w7.heap.size + 1) 0 (by omega) (.bool b14)).sc (w7.heap.size + 1) 1 (by omega) (.slice A14 n14 c14))
      replace z9_0 : Blk ((w14.setCell ⟨w7.heap.size + 1, 0, none⟩ (.bool b14)).setCell ⟨w7.heap.size + 1, 1, none⟩ (.slice A14 n14 c14)) w.heap.size 24 #[.bool false, .slice none 0 0, .slice none 0 0] := ((z9_0.fr (w7.heap.size + 1) 0 (by omega) (.bool b14)).fr (w7.heap.size + 1) 1 (by omega) (.slice A14 n14 c14))
      replace z9_1 : Blk ((w14.setCell ⟨w7.heap.size + 1, 0, none⟩ (.bool b14)).setCell ⟨w7.heap.size + 1, 1, none⟩ (.slice A14 n14 c14)) w3.heap.size 77 #[.bool b12, .slice A12 n12 c12] := ((z9_1.fr (w7.heap.size + 1) 0 (by omega) (.bool b14)).fr (w7.heap.size + 1) 1 (by omega) (.slice A14 n14 c14))
      replace z9_2 : Blk ((w14.setCell ⟨w7.heap.size + 1, 0, none⟩ (.bool b14)).setCell ⟨w7.heap.size + 1, 1, none⟩ (.slice A14 n14 c14)) w7.heap.size 77 #[.bool b6, .slice A6 n6 c6] := ((z9_2.fr (w7.heap.size + 1) 0 (by omega) (.bool b14)).fr (w7.heap.size + 1) 1 (by omega) (.slice A14 n14 c14))
      replace z9_3 : Blk ((w14.setCell ⟨w7.heap.size + 1, 0, none⟩ (.bool b14)).setCell ⟨w7.heap.size + 1, 1, none⟩ (.slice A14 n14 c14)) (w7.heap.size + 1) 77 #[.bool b14, .slice A14 n14 c14] := ((z9_3.set_at 0 (.bool b14) #[.bool b14, .slice As ns cs] (by simp)).set_at 1 (.slice A14 n14 c14) #[.bool b14, .slice A14 n14 c14] (by simp))
      have lw15 : w14.heap.size + 0 ≤ ((w14.setCell ⟨w7.heap.size + 1, 0, none⟩ (.bool b14)).setCell ⟨w7.heap.size + 1, 1, none⟩ (.slice A14 n14 c14)).heap.size := by simp
      generalize hE15 : ((w14.setCell ⟨w7.heap.size + 1, 0, none⟩ (.bool b14)).setCell ⟨w7.heap.size + 1, 1, none⟩ (.slice A14 n14 c14)) = w15 at p15 bw15 lw15 z9_0 z9_1 z9_2 z9_3 ⊢
      clear hE15
      replace h6 := h6.keep p15
      replace ho := ho.keep p15
      replace hp := hp.keep p15
      replace h12 := h12.keep p15
      replace h14 := h14.keep p15
      replace hkp := hkp.trans p15
      clear bw14
      have hN2 := h12.resz (K := 64) (by rw [HNI.out]; exact HB1.out)
      rw [HNI.out] at hN2
      have hS2 := h14.resz (K := 64) (by rw [ten_succ]; exact HB2.out)
      rw [ten_succ] at hS2
      go_roundw
      case rel => exact ⟨i + 1, b12, A12, n12, c12, b14, A14, n14, c14, by go_num, by omega, hN2, hS2, hkp, bw15, by omega, z9_0, z9_1, z9_2, z9_3⟩
      case measure => simp [intOf]; omega
    · have hiN : i = B.length := by omega
      subst hiN
      obtain ⟨cx4aa, cx4ab⟩ := x4a.c2
      obtain ⟨lx4aa, lx4ab, lx4ac, lx4ad⟩ := lts0 x4a.lt
      have cx8b := x8b.c2
      have lx8b := lts1 x8b.lt
      go_wp2_with fail
      (with_reducible refine (f_form _ bn An nn cn (NI (X : Int) B B.length) (64) ?_ bs As ns cs (((10 ^ B.length : Nat) : Int)) (64) ?_ (decQ F B) 64 ?_ ?_ ?_ ?_).mono ?_); (exact ho.iz); (exact hp.iz); (exact ten_ne _); (exact HQ.out); (exact HSQ.out); (omega); rintro e w9 ⟨b9, A9, n9, c9, A'9, n'9, c'9, rfl, h9, q9⟩
      clear cx4aa cx4ab lx4aa lx4ab lx4ac lx4ad cx8b lx8b
      replace h6 := h6.belw q9
      replace ho := ho.belw q9
      replace hp := hp.belw q9
      replace hkp := hkp.below q9
      replace x1a := x1a.b q9
      replace x4a := x4a.b q9
      replace x8a := x8a.b q9
      replace x8b := x8b.b q9
      have bw9 := hbw.trans (q9.mono hbw.size)
      have lw9 := q9.size
      clear q9
      have cx1a := x1a.c3
      have fx1a := x1a.f3
      have lx1a := lts0 x1a.lt
      go_wp2_with fail
      refine bodyPost_ret (v := .tuple #[.agg #[.bool b9, .slice A9 n9 c9, .slice A'9 n'9 c'9], .nilIface]) (by simp [results, Tryz.results59, go_sem, *] <;> trivial) rfl ?_
      exact ⟨_, _, _, _, _, _, _, rfl, (h9).keep ((((Kp.refl w9).sb w.heap.size 0 x1a.box (by decide) (.bool b9)).sb w.heap.size 1 (x1a.box.set ⟨w.heap.size, 0, none⟩ (.bool b9)) (by decide) (.slice A9 n9 c9)).sb w.heap.size 2 ((x1a.box.set ⟨w.heap.size, 0, none⟩ (.bool b9)).set ⟨w.heap.size, 1, none⟩ (.slice A9 n9 c9)) (by decide) (.slice A'9 n'9 c'9)), (((bw9.sc w.heap.size 0 (by omega) (.bool b9)).sc w.heap.size 1 (by omega) (.slice A9 n9 c9)).sc w.heap.size 2 (by omega) (.slice A'9 n'9 c'9))⟩
end Go.Proofs.YtianjkiakkclgaaGreatDoor

/- Walks: linkworkref02.decimal. -/
namespace Go.Proofs.YtianjkiakkclgaaGreatDoor
open Go Go.RowKit Bn
attribute [local go_sem ↓] Go.wp_at_zero Go.wp_at_succ
theorem NI_lt2 {x i j : Nat} {B : List UInt8} (hx : x < 10 ^ j) (hB : (B.take i).all isDg = true) (hl : i ≤ B.length) (hj : j + B.length ≤ 64) : (NI (x : Int) B i).natAbs < 4294967296 ^ 64 := by
  have h1 : decVal (B.take i) < 10 ^ i := by
    have := decVal_lt hB
    rw [List.length_take, Nat.min_eq_left hl] at this
    exact this
  have h2 : NI (x : Int) B i = ((x * 10 ^ i + decVal (B.take i) : Nat) : Int) := by unfold NI; push_cast; rfl
  rw [h2, Int.natAbs_natCast]
  have h3 : x * 10 ^ i + decVal (B.take i) < 10 ^ (j + i) := by
    rw [Nat.pow_add]
    have : (x + 1) * 10 ^ i ≤ 10 ^ j * 10 ^ i := Nat.mul_le_mul_right _ hx
    rw [Nat.add_mul] at this
    omega
  have h4 : 10 ^ (j + i) ≤ 10 ^ 64 := Nat.pow_le_pow_right (by omega) (by omega)
  have h5 : (10 : Nat) ^ 64 < 4294967296 ^ 64 := by decide
  omega
theorem g_dec_1t (w : World) (F B : List UInt8) (N : Nat) (hF6 : F.length ≤ 65536) (hm : headM F = true) (ho : okZ (tailS F) = false) :
  Calls Tryz.prog 74 #[strV F, strV B, .int .i64 (N : Nat)] w (RetFe w (.int .i64 2) 0 64) := by
 have htlB := toList_v B
 have hszB := size_v B
 have hszF := size_v F
 obtain ⟨T, hT⟩ : ∃ T, tailS F = T := ⟨_, rfl⟩
 have hFT : F = 45 :: T := by
  rcases head_cases F with ⟨_, b⟩ | ⟨b, _⟩
  ·rw [hT] at b; exact b
  ·rw [hm] at b; cases b
 have hgetF : ∀ h, (⟨F.toArray⟩ : ByteArray)[0]'h = 45 := fun h => by subst hFT; rfl
 have e1 : (⟨F.toArray⟩ : ByteArray).extract 1 F.length = ⟨T.toArray⟩ := by rw [ext_v, hFT]; simp
 have hl1 : 1 ≤ F.length := by rw [hFT]; simp
 have hl0 : 0 < F.length := hl1
 have hTF : T.length ≤ F.length := by rw [hFT]; simp
 have HO := Lib.hid (show okZ T = false by rw [← hT]; exact ho)
 clear hT hFT hm ho
 go_enter Tryz.func74, Tryz.ntmps74
 go_wp2_with fail
 (with_reducible refine (r_parse_bad _ (T) (by omega) HO.out).mono ?_); rintro e w1 ⟨b1, A1, n1, c1, rfl, h1, hb1⟩
 have q1 := hb1.q1
 have x1a : Blk w1 w.heap.size 24 #[.bool false, .slice none 0 0, .slice none 0 0] := (blkAt _ _ _ (by simp)).below hb1 (by simp)
 have bw1 := (brefl w).trans (q1.mono (brefl w).size)
 have lw1 := hb1.l1
 clear q1
 have cx1a := x1a.c3
 have fx1a := x1a.f3
 have lx1a := lts0 x1a.lt
 go_wp2_with fail
 refine bodyPost_ret (v := .tuple #[.agg #[.bool false, .slice none 0 0, .slice none 0 0], .int .i64 2]) (by simp [results, Tryz.results74, go_sem, *] <;> trivial) rfl ?_
 exact ⟨_, _, _, _, _, _, _, rfl, QV.zero _ _, ((((bw1.sc w.heap.size 0 (by omega) (.bool false)).sc w.heap.size 1 (by omega) (.slice none 0 0)).sc w.heap.size 2 (by omega) (.slice none 0 0)).alloc (by first | omega | (simp <;> omega)) (.cells #[.bool b1, .slice A1 n1 c1] 77))⟩
theorem g_dec_2t (w : World) (F B : List UInt8) (N : Nat) (hF6 : F.length ≤ 65536) (hm : headM F = true) (ho : okZ (tailS F) = true) (hs : (valZ (tailS F)).sign = -1) :
  Calls Tryz.prog 74 #[strV F, strV B, .int .i64 (N : Nat)] w (RetFe w (.int .i64 2) 0 64) := by
 have htlB := toList_v B
 have hszB := size_v B
 have hszF := size_v F
 obtain ⟨T, hT⟩ : ∃ T, tailS F = T := ⟨_, rfl⟩
 have hFT : F = 45 :: T := by
  rcases head_cases F with ⟨_, b⟩ | ⟨b, _⟩
  ·rw [hT] at b; exact b
  ·rw [hm] at b; cases b
 have hgetF : ∀ h, (⟨F.toArray⟩ : ByteArray)[0]'h = 45 := fun h => by subst hFT; rfl
 have e1 : (⟨F.toArray⟩ : ByteArray).extract 1 F.length = ⟨T.toArray⟩ := by rw [ext_v, hFT]; simp
 have hl1 : 1 ≤ F.length := by rw [hFT]; simp
 have hl0 : 0 < F.length := hl1
 have hTF : T.length ≤ F.length := by rw [hFT]; simp
 have HO := Lib.hid (show okZ T = true by rw [← hT]; exact ho)
 have HS := Lib.hid (show (valZ T).sign = -1 by rw [← hT]; exact hs)
 clear hs
 clear hT hFT hm ho
 go_enter Tryz.func74, Tryz.ntmps74
 go_wp2_with fail
 (with_reducible refine (r_parse_ok _ (T) (by omega) HO.out).mono ?_); rintro e w1 ⟨b1, A1, n1, c1, rfl, h1, hb1⟩
 have q1 := hb1.q1
 have x1a : Blk w1 w.heap.size 24 #[.bool false, .slice none 0 0, .slice none 0 0] := (blkAt _ _ _ (by simp)).below hb1 (by simp)
 have bw1 := (brefl w).trans (q1.mono (brefl w).size)
 have lw1 := hb1.l1
 clear q1
 go_wp2_with fail
 (with_reducible refine (r01_sign_e _ b1 A1 n1 c1 (valZ T) (T.length) ?_ ((-1)) ?_ ?_).mono ?_); (exact (h1.belw ((Below.refl _ _).alloc (Nat.le_refl _) _)).iz); (exact HS.out); (omega); rintro e w2 ⟨rfl, hb2⟩
 have q2 := hb2.q1
 replace h1 := h1.belw q2
 replace x1a := x1a.b q2
 have x2a : Blk w2 w1.heap.size 77 #[.bool b1, .slice A1 n1 c1] := (blkAt _ _ _ (by simp)).below hb2 (by simp)
 have bw2 := bw1.trans (q2.mono bw1.size)
 have lw2 := hb2.l1
 clear q2 bw1
 have cx1a := x1a.c3
 have fx1a := x1a.f3
 have lx1a := lts0 x1a.lt
 go_wp2_with fail
 refine bodyPost_ret (v := .tuple #[.agg #[.bool false, .slice none 0 0, .slice none 0 0], .int .i64 2]) (by simp [results, Tryz.results74, go_sem, *] <;> trivial) rfl ?_
 exact ⟨_, _, _, _, _, _, _, rfl, QV.zero _ _, (((bw2.sc w.heap.size 0 (by omega) (.bool false)).sc w.heap.size 1 (by omega) (.slice none 0 0)).sc w.heap.size 2 (by omega) (.slice none 0 0))⟩
theorem g_dec_3t (w : World) (F B : List UInt8) (N : Nat) (hF6 : F.length ≤ 65536) (hm : headM F = true) (ho : okZ (tailS F) = true) (hs : 0 ≤ (valZ (tailS F)).sign) (hB : B.length = 0) :
  Calls Tryz.prog 74 #[strV F, strV B, .int .i64 (N : Nat)] w (RetFe w (.int .i64 2) 0 64) := by
 have htlB := toList_v B
 have hszB := size_v B
 have hszF := size_v F
 obtain ⟨T, hT⟩ : ∃ T, tailS F = T := ⟨_, rfl⟩
 have hFT : F = 45 :: T := by
  rcases head_cases F with ⟨_, b⟩ | ⟨b, _⟩
  ·rw [hT] at b; exact b
  ·rw [hm] at b; cases b
 have hgetF : ∀ h, (⟨F.toArray⟩ : ByteArray)[0]'h = 45 := fun h => by subst hFT; rfl
 have e1 : (⟨F.toArray⟩ : ByteArray).extract 1 F.length = ⟨T.toArray⟩ := by rw [ext_v, hFT]; simp
 have hl1 : 1 ≤ F.length := by rw [hFT]; simp
 have hl0 : 0 < F.length := hl1
 have hTF : T.length ≤ F.length := by rw [hFT]; simp
 have HO := Lib.hid (show okZ T = true by rw [← hT]; exact ho)
 obtain ⟨s, hs1⟩ : ∃ s, (valZ T).sign = s := ⟨_, rfl⟩
 have es : (s < 0) = False := by simp; rw [← hs1, ← hT]; exact hs
 have HS := Lib.hid hs1
 have hBz : ((B.length : Int) == 0) = true := by rw [hB]; rfl
 clear hs hs1
 clear hT hFT hm ho
 go_enter Tryz.func74, Tryz.ntmps74
 go_wp2_with fail
 (with_reducible refine (r_parse_ok _ (T) (by omega) HO.out).mono ?_); rintro e w1 ⟨b1, A1, n1, c1, rfl, h1, hb1⟩
 have q1 := hb1.q1
 have x1a : Blk w1 w.heap.size 24 #[.bool false, .slice none 0 0, .slice none 0 0] := (blkAt _ _ _ (by simp)).below hb1 (by simp)
 have bw1 := (brefl w).trans (q1.mono (brefl w).size)
 have lw1 := hb1.l1
 clear q1
 go_wp2_with fail
 (with_reducible refine (r01_sign_e _ b1 A1 n1 c1 (valZ T) (T.length) ?_ (s) ?_ ?_).mono ?_); (exact (h1.belw ((Below.refl _ _).alloc (Nat.le_refl _) _)).iz); (exact HS.out); (omega); rintro e w2 ⟨rfl, hb2⟩
 have q2 := hb2.q1
 replace h1 := h1.belw q2
 replace x1a := x1a.b q2
 have x2a : Blk w2 w1.heap.size 77 #[.bool b1, .slice A1 n1 c1] := (blkAt _ _ _ (by simp)).below hb2 (by simp)
 have bw2 := bw1.trans (q2.mono bw1.size)
 have lw2 := hb2.l1
 clear q2 bw1
 have cx1a := x1a.c3
 have fx1a := x1a.f3
 have lx1a := lts0 x1a.lt
 go_wp2_with fail
 refine bodyPost_ret (v := .tuple #[.agg #[.bool false, .slice none 0 0, .slice none 0 0], .int .i64 2]) (by simp [results, Tryz.results74, go_sem, *] <;> trivial) rfl ?_
 exact ⟨_, _, _, _, _, _, _, rfl, QV.zero _ _, (((bw2.sc w.heap.size 0 (by omega) (.bool false)).sc w.heap.size 1 (by omega) (.slice none 0 0)).sc w.heap.size 2 (by omega) (.slice none 0 0))⟩
theorem g_dec_5t (w : World) (F B : List UInt8) (N : Nat) (hF6 : F.length ≤ 65536) (hm : headM F = true) (ho : okZ (tailS F) = true) (hs : 0 ≤ (valZ (tailS F)).sign) (hB : B ≠ []) (hN : 64 < N) :
  Calls Tryz.prog 74 #[strV F, strV B, .int .i64 (N : Nat)] w (RetFe w (.int .i64 2) 0 64) := by
 have htlB := toList_v B
 have hszB := size_v B
 have hszF := size_v F
 obtain ⟨T, hT⟩ : ∃ T, tailS F = T := ⟨_, rfl⟩
 have hFT : F = 45 :: T := by
  rcases head_cases F with ⟨_, b⟩ | ⟨b, _⟩
  ·rw [hT] at b; exact b
  ·rw [hm] at b; cases b
 have hgetF : ∀ h, (⟨F.toArray⟩ : ByteArray)[0]'h = 45 := fun h => by subst hFT; rfl
 have e1 : (⟨F.toArray⟩ : ByteArray).extract 1 F.length = ⟨T.toArray⟩ := by rw [ext_v, hFT]; simp
 have hl1 : 1 ≤ F.length := by rw [hFT]; simp
 have hl0 : 0 < F.length := hl1
 have hTF : T.length ≤ F.length := by rw [hFT]; simp
 have HO := Lib.hid (show okZ T = true by rw [← hT]; exact ho)
 obtain ⟨s, hs1⟩ : ∃ s, (valZ T).sign = s := ⟨_, rfl⟩
 have es : (s < 0) = False := by simp; rw [← hs1, ← hT]; exact hs
 have HS := Lib.hid hs1
 have hBz : ((B.length : Int) == 0) = false := by simp; exact hB
 clear hs hs1
 clear hT hFT hm ho
 go_enter Tryz.func74, Tryz.ntmps74
 go_wp2_with fail
 (with_reducible refine (r_parse_ok _ (T) (by omega) HO.out).mono ?_); rintro e w1 ⟨b1, A1, n1, c1, rfl, h1, hb1⟩
 have q1 := hb1.q1
 have x1a : Blk w1 w.heap.size 24 #[.bool false, .slice none 0 0, .slice none 0 0] := (blkAt _ _ _ (by simp)).below hb1 (by simp)
 have bw1 := (brefl w).trans (q1.mono (brefl w).size)
 have lw1 := hb1.l1
 clear q1
 go_wp2_with fail
 (with_reducible refine (r01_sign_e _ b1 A1 n1 c1 (valZ T) (T.length) ?_ (s) ?_ ?_).mono ?_); (exact (h1.belw ((Below.refl _ _).alloc (Nat.le_refl _) _)).iz); (exact HS.out); (omega); rintro e w2 ⟨rfl, hb2⟩
 have q2 := hb2.q1
 replace h1 := h1.belw q2
 replace x1a := x1a.b q2
 have x2a : Blk w2 w1.heap.size 77 #[.bool b1, .slice A1 n1 c1] := (blkAt _ _ _ (by simp)).below hb2 (by simp)
 have bw2 := bw1.trans (q2.mono bw1.size)
 have lw2 := hb2.l1
 clear q2 bw1
 have cx1a := x1a.c3
 have fx1a := x1a.f3
 have lx1a := lts0 x1a.lt
 go_wp2_with fail
 refine bodyPost_ret (v := .tuple #[.agg #[.bool false, .slice none 0 0, .slice none 0 0], .int .i64 2]) (by simp [results, Tryz.results74, go_sem, *] <;> trivial) rfl ?_
 exact ⟨_, _, _, _, _, _, _, rfl, QV.zero _ _, (((bw2.sc w.heap.size 0 (by omega) (.bool false)).sc w.heap.size 1 (by omega) (.slice none 0 0)).sc w.heap.size 2 (by omega) (.slice none 0 0))⟩
theorem g_dec_okt (w : World) (F B : List UInt8) (N : Nat) (hFB : F.length + B.length ≤ 64) (hm : headM F = true) (ho : okZ (tailS F) = true) (hz : 0 ≤ valZ (tailS F)) (hB : B ≠ []) (hN : N ≤ 64) (x : Int) (r : Rat) (hxr : (B.all isDg = true ∧ x = 0 ∧ r = decQ F B) ∨ (B.all isDg = false ∧ x = 2 ∧ r = 0)) :
    Calls Tryz.prog 74 #[strV F, strV B, .int .i64 (N : Nat)] w (RetFe w (.int .i64 x) r 64) := by
  have hF6 : F.length ≤ 65536 := by omega
  have htlB := toList_v B
  have hszB := size_v B
  have hszF := size_v F
  obtain ⟨T, hT⟩ : ∃ T, tailS F = T := ⟨_, rfl⟩
  have hFT : F = 45 :: T := by
    rcases head_cases F with ⟨_, b⟩ | ⟨b, _⟩
    · rw [hT] at b; exact b
    · rw [hm] at b; cases b
  have hgetF : ∀ h, (⟨F.toArray⟩ : ByteArray)[0]'h = 45 := fun h => by subst hFT; rfl
  have e1 : (⟨F.toArray⟩ : ByteArray).extract 1 F.length = ⟨T.toArray⟩ := by rw [ext_v, hFT]; simp
  have hl1 : 1 ≤ F.length := by rw [hFT]; simp
  have hl0 : 0 < F.length := hl1
  have hTF : T.length ≤ F.length := by rw [hFT]; simp
  have HO := Lib.hid (show okZ T = true by rw [← hT]; exact ho)
  have hs : 0 ≤ (valZ (tailS F)).sign := sign_nn hz
  obtain ⟨s, hs1⟩ : ∃ s, (valZ T).sign = s := ⟨_, rfl⟩
  have es : (s < 0) = False := by simp; rw [← hs1, ← hT]; exact hs
  have HS := Lib.hid hs1
  obtain ⟨X, hX⟩ : ∃ X : Nat, valZ T = (X : Int) := ⟨(valZ T).toNat, by rw [← hT]; omega⟩
  obtain ⟨J, hJ, hX2⟩ : ∃ J, J ≤ T.length ∧ X < 10 ^ J := dec_lt (by rw [← hT]; exact ho) hX
  have HX3 := Lib.hid (And.intro hX2 (show J + B.length ≤ 64 by omega))
  have HX2 := Lib.hid hX
  have HQ := Lib.hid (show Rat.divInt (-NI (X : Int) B B.length) ((10 ^ B.length : Nat) : Int) = decQ F B by
    unfold decQ decN; rw [hm, hT, hX, NI_len]; push_cast; rfl)
  have HXR := Lib.hid hxr
  have hB64 : B.length ≤ 64 := by omega
  have eN : ((64 : Int) < (N : Int)) = False := by simp; omega
  have hBz : ((B.length : Int) == 0) = false := by simp; exact hB
  have hBp : 0 < B.length := List.length_pos_iff.2 hB
  clear hs hs1 hz hX hX2 hJ hxr hB
  clear hT hFT hm ho
  go_enter Tryz.func74, Tryz.ntmps74
  go_wp2_with fail
  (with_reducible refine (r_parse_ok _ (T) (by omega) HO.out).mono ?_); rintro e w1 ⟨b1, A1, n1, c1, rfl, h1, hb1⟩
  have q1 := hb1.q1
  have x1a : Blk w1 w.heap.size 24 #[.bool false, .slice none 0 0, .slice none 0 0] := (blkAt _ _ _ (by simp)).below hb1 (by simp)
  have bw1 := (brefl w).trans (q1.mono (brefl w).size)
  have lw1 := hb1.l1
  clear q1
  go_wp2_with fail
  (with_reducible refine (r01_sign_e _ b1 A1 n1 c1 (valZ T) (T.length) ?_ (s) ?_ ?_).mono ?_); (exact (h1.belw ((Below.refl _ _).alloc (Nat.le_refl _) _)).iz); (exact HS.out); (omega); rintro e w2 ⟨rfl, hb2⟩
  have q2 := hb2.q1
  replace h1 := h1.belw q2
  replace x1a := x1a.b q2
  have x2a : Blk w2 w1.heap.size 77 #[.bool b1, .slice A1 n1 c1] := (blkAt _ _ _ (by simp)).below hb2 (by simp)
  have bw2 := bw1.trans (q2.mono bw1.size)
  have lw2 := hb2.l1
  clear q2 bw1
  go_wp2_with fail
  (with_reducible refine (g_one _).mono ?_); rintro e w3 ⟨b3, A3, n3, c3, rfl, h3, q3⟩
  replace h1 := h1.belw q3
  replace x1a := x1a.b q3
  replace x2a := x2a.b q3
  have bw3 := bw2.trans (q3.mono bw2.size)
  have lw3 := q3.size
  clear q3 bw2
  go_wp2_with fail
  have p4 := ((Kp.refl w3).alloc (.cells #[.bool b3, .slice A3 n3 c3] 77))
  have bw4 := (bw3.alloc (by first | omega | (simp <;> omega)) (.cells #[.bool b3, .slice A3 n3 c3] 77))
  have x4a : Blk (w3.alloc (.cells #[.bool b3, .slice A3 n3 c3] 77)) w3.heap.size 77 #[.bool b3, .slice A3 n3 c3] := (blkAt _ _ _ (by simp))
  replace x1a := (x1a.alloc (.cells #[.bool b3, .slice A3 n3 c3] 77))
  replace x2a := (x2a.alloc (.cells #[.bool b3, .slice A3 n3 c3] 77))
  have lw4 : w3.heap.size + 1 ≤ (w3.alloc (.cells #[.bool b3, .slice A3 n3 c3] 77)).heap.size := by simp
  generalize hE4 : (w3.alloc (.cells #[.bool b3, .slice A3 n3 c3] 77)) = w4 at p4 bw4 lw4 x4a x1a x2a ⊢
  clear hE4
  replace h1 := h1.keep p4
  replace h3 := h3.keep p4
  clear bw3
  go_loopw [49] (fun iv wr => ∃ (i : Nat) (bn : Bool) (An : Option Addr) (nn cn : Nat) (bs : Bool) (As : Option Addr) (ns cs : Nat), iv = .int .i64 (i : Nat) ∧ i ≤ B.length ∧ Hid ((B.take i).all isDg = true) ∧ IV wr bn An nn cn (NI (X : Int) B i) 64 ∧ IV wr bs As ns cs ((10 ^ i : Nat) : Int) 64 ∧ Kp w4 wr ∧ Below w.heap.size w wr ∧ w4.heap.size ≤ wr.heap.size ∧ Blk wr w.heap.size 24 #[.bool false, .slice none 0 0, .slice none 0 0] ∧ Blk wr w1.heap.size 77 #[.bool bn, .slice An nn cn] ∧ Blk wr w3.heap.size 77 #[.bool bs, .slice As ns cs]) (fun iv _ => B.length - (intOf iv).toNat)
  case atStart => exact ⟨0, b1, A1, n1, c1, b3, A3, n3, c3, rfl, Nat.zero_le _, Lib.hid rfl, (by rw [NI_zero, ← HX2.out]; exact h1.mono (by omega)), (by rw [show ((10 ^ 0 : Nat) : Int) = 1 from rfl]; exact h3.mono (by omega)), Kp.refl _, bw4, Nat.le_refl _, x1a, x2a, x4a⟩
  case round =>
    clear x1a
    clear x2a
    clear x4a
    obtain ⟨i, bn, An, nn, cn, bs, As, ns, cs, rfl, hi, hall, ho, hp, hkp, hbw, hlw, x1a, x2a, x4a⟩ := hrel
    replace h1 := h1.keep hkp
    replace h3 := h3.keep hkp
    by_cases hlt : i < B.length
    · obtain ⟨d, hd⟩ : ∃ d, B[i] = d := ⟨_, rfl⟩
      have hget : ∀ h, (⟨B.toArray⟩ : ByteArray)[i]'h = d := fun h => hd
      have hts : B.take (i + 1) = B.take i ++ [d] := by rw [List.take_succ_eq_append_getElem hlt, hd]
      obtain ⟨dn, hdn⟩ : ∃ dn, d.toNat = dn := ⟨_, rfl⟩
      have hi0 : (0 : Int) ≤ (i : Int) := by omega
      have hiL : (i : Int) < (B.length : Int) := by omega
      by_cases hdg : isDg d = true
      · have h8 : 48 ≤ dn ∧ dn ≤ 57 := by unfold isDg at hdg; rw [Bool.and_eq_true, decide_eq_true_eq, decide_eq_true_eq, hdn] at hdg; exact hdg
        obtain ⟨v, hv⟩ : ∃ v, dn - 48 = v := ⟨_, rfl⟩
        have e2 : (dn : Int) - 48 = (v : Int) := by omega
        have hv9 : v ≤ 9 := by omega
        have e48 : ((dn : Int) < 48) = False := by simp; omega
        have e57 : ((57 : Int) < (dn : Int)) = False := by simp; omega
        have HD : dval d = v := by unfold dval; rw [hdn]; exact hv
        have HNI := Lib.hid (show NI (X : Int) B i * 10 + (v : Nat) = NI (X : Int) B (i + 1) by rw [← NI_succ _ _ _ hlt, hd, HD])
        have HAL := Lib.hid (show (B.take (i + 1)).all isDg = true by rw [hts, List.all_append, hall.out]; simp [hdg])
        have HB1 := Lib.hid (NI_lt2 HX3.out.1 HAL.out (show i + 1 ≤ B.length by omega) HX3.out.2)
        have HB2 := Lib.hid (ten_lt (i := i + 1) (by omega))
        have hw8 : IntKind.u8.wrap (v : Int) = (v : Int) := IntWalk.u8_in _ ⟨by omega, by omega⟩
        have hw64 : IntKind.i64.wrap (v : Int) = (v : Int) := IntWalk.i64_in _ ⟨by omega, by omega⟩
        clear hd hdg h8 hv HD hts
        obtain ⟨cx2aa, cx2ab⟩ := x2a.c2
        obtain ⟨lx2aa, lx2ab, lx2ac, lx2ad⟩ := lts0 x2a.lt
        go_wp2_with fail
        refine wp_region_lin (B := w.heap.size) (fr := fun xf => ⟨List.toArray (.string ⟨T.toArray⟩ :: strV B :: .int .i64 (N : Nat) :: undef :: undef :: undef :: .pointer (some ⟨w.heap.size, 0, none⟩) :: u7 :: .bool true :: .pointer (some ⟨w1.heap.size, 0, none⟩) :: .int .i64 0 :: .pointer (some ⟨w3.heap.size, 0, none⟩) :: .int .i64 (i : Nat) :: strV F :: .int .i64 (F.length : Nat) :: .bool true :: .bool true :: strV F :: .int .u8 45 :: .bool true :: .bool true :: .bool true :: strV F :: .string ⟨T.toArray⟩ :: .tuple #[.agg #[.bool b1, .slice A1 n1 c1], .int .i64 0] :: .string ⟨T.toArray⟩ :: .tuple #[.agg #[.bool b1, .slice A1 n1 c1], .int .i64 0] :: .agg #[.bool b1, .slice A1 n1 c1] :: .int .i64 0 :: .int .i64 0 :: .bool false :: .bool false :: .agg #[.bool b1, .slice A1 n1 c1] :: .int .i64 s :: .bool false :: .bool false :: .bool false :: strV B :: .int .i64 (B.length : Nat) :: .bool false :: .bool false :: .bool false :: .int .i64 (N : Nat) :: .bool false :: .bool false :: undef :: .agg #[.bool b3, .slice A3 n3 c3] :: strV B :: .int .i64 (B.length : Nat) :: .int .i64 (i : Nat) :: .bool true :: .int .i64 (i : Nat) :: strV B :: .int .i64 (i : Nat) :: .int .u8 (dn : Nat) :: .bool false :: .bool false :: strV B :: .int .i64 (i : Nat) :: .int .u8 (dn : Nat) :: .bool false :: .bool false :: u62 :: xf 0 :: xf 1 :: xf 2 :: xf 3 :: xf 4 :: xf 5 :: xf 6 :: xf 7 :: xf 8 :: xf 9 :: u73 :: u74 :: u75 :: u76 :: undef :: undef :: undef :: undef :: undef :: undef :: []), []⟩) (R := fun ri => List.getD ((PEq (.agg #[.bool bn, .slice An nn cn])) :: (VI ((10 : Int)) (1)) :: (VI ((NI (X : Int) B i) * ((10 : Int))) ((64) + (1))) :: (PEq (strV B)) :: (PEq (.int .i64 (i : Nat))) :: (PEq (.int .u8 (dn : Nat))) :: (PEq (.int .u8 (v : Nat))) :: (PEq (.int .i64 (v : Nat))) :: (VI (((v : Nat) : Int)) (1)) :: (VI (((NI (X : Int) B i) * ((10 : Int))) + (((v : Nat) : Int))) (((64) + (1)) + (1) + 1)) :: PAny :: []) ri (fun _ _ => True)) (es := []) (ow := [⟨w.heap.size, 11, 0, 24, #[.bool false, .slice none 0 0, .slice none 0 0], CAny⟩, ⟨w1.heap.size, 10, 0, 77, #[.bool bn, .slice An nn cn], CI (((NI (X : Int) B i) * ((10 : Int))) + (((v : Nat) : Int))) (((64) + (1)) + (1) + 1)⟩, ⟨w3.heap.size, 11, 0, 77, #[.bool bs, .slice As ns cs], CAny⟩]) (x0 := (upd (upd (upd (upd (upd (upd (upd (upd (upd (upd (fun _ => undef) 0 (u63)) 1 (u64)) 2 (u65)) 3 (u66)) 4 (u67)) 5 (u68)) 6 (u69)) 7 (u70)) 8 (u71)) 9 (u72))) (by kernel_rfl)
          (each_of ⟨fun _ _ => rfl, fun _ _ => rfl, fun _ _ => rfl, fun _ _ => rfl, fun _ _ => rfl, fun _ _ => rfl, fun _ _ => rfl, fun _ _ => rfl, fun _ _ => rfl, fun _ _ => rfl, fun _ _ => rfl, trivial⟩) (each_of (acyc_from _ 0 (by kernel_rfl))) (AllStab.get _ ⟨stEq _, stI _ _, stI _ _, stEq _, stEq _, stEq _, stEq _, stEq _, stI _ _, stI _ _, stAny, trivial⟩)
          (fun _ h => nomatch h) (fmc ⟨scAny, fmc ⟨scI _ _, fmc ⟨scAny, fun _ h => nomatch h⟩⟩⟩) (fun _ h => nomatch h) hbw.size
          (fmc ⟨⟨x1a, by show w.heap.size ≤ w.heap.size; omega⟩, fmc ⟨⟨x2a, by show w.heap.size ≤ w1.heap.size; omega⟩, fmc ⟨⟨x4a, by show w.heap.size ≤ w3.heap.size; omega⟩, fun _ h => nomatch h⟩⟩⟩) (ownDist (by simp <;> omega))
          (each_of ⟨?_, ?_, ?_, ?_, ?_, ?_, ?_, ?_, ?_, ?_, ?_, trivial⟩) ?_
        · exact .inl ⟨by simp, by simp, fun xf wq hk hbl hd K hK => by
            have y : Blk wq w1.heap.size 77 #[.bool bn, .slice An nn cn] := hbl _ (List.Mem.tail _ (List.Mem.head _)) (by simp [Region.binds])
            obtain ⟨hcl0, hcl1⟩ := y.c2
            (try dsimp only)
            go_simp
            exact hK.out (.agg #[.bool bn, .slice An nn cn]) _ rfl (brefl _)⟩
        · exact .inl ⟨by simp, by simp, fun xf wq hk hbl hd K hK => by
            (try dsimp only)
            go_simp
            go_at_call 65
            (with_reducible refine (r01_of1 _ (10) ?_ ?_).mono ?_); (omega); (omega); rintro e wr ⟨b6, A6, n6, c6, rfl, h6, hbr⟩
            exact hK.out _ _ ⟨b6, A6, n6, c6, rfl, h6⟩ hbr⟩
        · exact .inl ⟨by simp, by simp, fun xf wq hk hbl hd K hK => by
            have dq0 : xf 0 = .agg #[.bool bn, .slice An nn cn] := hd ⟨0, .data⟩ (by simp) rfl
            obtain ⟨b6, A6, n6, c6, dq1, h6⟩ : VI ((10 : Int)) (1) (xf 1) wq := hd ⟨1, .data⟩ (by simp) rfl
            (try dsimp only); (try simp only [dq0, dq1])
            go_simp
            go_at_call 70
            (with_reducible refine (r01_mul _ bn An nn cn (NI (X : Int) B i) (64) ?_ b6 A6 n6 c6 ((10 : Int)) (1) ?_ ?_).mono ?_); (exact (ho.keep hk).iz); (exact h6.iz); (omega); rintro e wr ⟨b7, A7, n7, c7, rfl, h7, hbr⟩
            have hz := hK.out _ _ ⟨b7, A7, n7, c7, rfl, h7⟩ hbr
            simp only [dq0, dq1] at hz
            exact hz⟩
        · exact .inl ⟨by simp, by simp, fun xf wq hk hbl hd K hK => by
            (try dsimp only)
            go_simp
            exact hK.out (strV B) _ rfl (brefl _)⟩
        · exact .inl ⟨by simp, by simp, fun xf wq hk hbl hd K hK => by
            (try dsimp only)
            go_simp
            exact hK.out (.int .i64 (i : Nat)) _ rfl (brefl _)⟩
        · exact .inl ⟨by simp, by simp, fun xf wq hk hbl hd K hK => by
            have dq3 : xf 3 = strV B := hd ⟨3, .data⟩ (by simp) rfl
            have dq4 : xf 4 = .int .i64 (i : Nat) := hd ⟨4, .data⟩ (by simp) rfl
            (try dsimp only); (try simp only [dq3, dq4])
            go_simp
            have hz := hK.out (.int .u8 (dn : Nat)) _ rfl (brefl _)
            simp only [dq3, dq4] at hz
            exact hz⟩
        · exact .inl ⟨by simp, by simp, fun xf wq hk hbl hd K hK => by
            have dq5 : xf 5 = .int .u8 (dn : Nat) := hd ⟨5, .data⟩ (by simp) rfl
            (try dsimp only); (try simp only [dq5])
            go_simp
            have hz := hK.out (.int .u8 (v : Nat)) _ rfl (brefl _)
            simp only [dq5] at hz
            exact hz⟩
        · exact .inl ⟨by simp, by simp, fun xf wq hk hbl hd K hK => by
            have dq6 : xf 6 = .int .u8 (v : Nat) := hd ⟨6, .data⟩ (by simp) rfl
            (try dsimp only); (try simp only [dq6])
            go_simp
            have hz := hK.out (.int .i64 (v : Nat)) _ rfl (brefl _)
            simp only [dq6] at hz
            exact hz⟩
        · exact .inl ⟨by simp, by simp, fun xf wq hk hbl hd K hK => by
            have dq7 : xf 7 = .int .i64 (v : Nat) := hd ⟨7, .data⟩ (by simp) rfl
            (try dsimp only); (try simp only [dq7])
            go_simp
            go_at_call 65
            (with_reducible refine (r01_of1 _ ((v : Nat)) ?_ ?_).mono ?_); (omega); (omega); rintro e wr ⟨b8, A8, n8, c8, rfl, h8, hbr⟩
            have hz := hK.out _ _ ⟨b8, A8, n8, c8, rfl, h8⟩ hbr
            simp only [dq7] at hz
            exact hz⟩
        · exact .inl ⟨by simp, by simp, fun xf wq hk hbl hd K hK => by
            obtain ⟨b7, A7, n7, c7, dq2, h7⟩ : VI ((NI (X : Int) B i) * ((10 : Int))) ((64) + (1)) (xf 2) wq := hd ⟨2, .data⟩ (by simp) rfl
            obtain ⟨b8, A8, n8, c8, dq8, h8⟩ : VI (((v : Nat) : Int)) (1) (xf 8) wq := hd ⟨8, .data⟩ (by simp) rfl
            (try dsimp only); (try simp only [dq2, dq8])
            go_simp
            go_at_call 69
            (with_reducible refine (r01_add _ b7 A7 n7 c7 ((NI (X : Int) B i) * ((10 : Int))) ((64) + (1)) ?_ b8 A8 n8 c8 (((v : Nat) : Int)) (1) ?_ ?_).mono ?_); (exact h7.iz); (exact h8.iz); (omega); rintro e wr ⟨b9, A9, n9, c9, rfl, h9, hbr⟩
            have hz := hK.out _ _ ⟨b9, A9, n9, c9, rfl, h9⟩ hbr
            simp only [dq2, dq8] at hz
            exact hz⟩
        · exact .inr (.inr (.inr ⟨⟨w1.heap.size, 10, 0, 77, #[.bool bn, .slice An nn cn], CI (((NI (X : Int) B i) * ((10 : Int))) + (((v : Nat) : Int))) (((64) + (1)) + (1) + 1)⟩, by simp, rfl, by simp, by simp, (show KT 77 = false by decide), fun _ _ => True.intro, fun xf wq hblk hd => by
            obtain ⟨b9, A9, n9, c9, dq9, h9⟩ : VI (((NI (X : Int) B i) * ((10 : Int))) + (((v : Nat) : Int))) (((64) + (1)) + (1) + 1) (xf 9) wq := hd ⟨9, .data⟩ (by simp) rfl
            dsimp only at hblk
            refine ⟨[.bool b9, .slice A9 n9 c9], fun w' hk => ⟨b9, A9, n9, c9, rfl, h9.keep hk⟩, fun K hK => ?_⟩
            have hc0 : wq.cell? ⟨w1.heap.size, 0, none⟩ = some (.bool bn) := hblk.cell 0
            have hc1 : wq.cell? ⟨w1.heap.size, 1, none⟩ = some (.slice An nn cn) := hblk.cell 1
            have hf0 : wq.frozen? ⟨w1.heap.size, 0, none⟩ = false := hblk.frozen 0
            have hf1 : wq.frozen? ⟨w1.heap.size, 1, none⟩ = false := hblk.frozen 1
            (try dsimp only)
            simp only [dq9]
            go_simp
            have hz := hK.out undef
            simp only [dq9] at hz
            exact hz⟩))
        clear cx2aa cx2ab lx2aa lx2ab lx2ac lx2ad
        intro y5 w5 kq5 hbl5 lw5 how hrr hfl hds
        replace ho := ho.keep kq5
        replace hp := hp.keep kq5
        replace hkp := hkp.trans kq5
        obtain ⟨_, z5_0, ez, _⟩ := how _ (List.Mem.head _)
        obtain rfl := ez (by simp)
        dsimp only at z5_0
        obtain ⟨_, z5_1, _, ez⟩ := how _ (List.Mem.tail _ (List.Mem.head _))
        obtain ⟨b9, A9, n9, c9, rfl, h9⟩ := ez (by simp)
        dsimp only at z5_1
        obtain ⟨_, z5_2, ez, _⟩ := how _ (List.Mem.tail _ (List.Mem.tail _ (List.Mem.head _)))
        obtain rfl := ez (by simp)
        dsimp only at z5_2
        (try dsimp only)
        clear hrr hfl how hds 
        clear x1a x2a x4a
        have bw5 := hbw.trans hbl5
        have cz5_1_0 : w5.cell? ⟨w1.heap.size, 0, none⟩ = some (.bool b9) := z5_1.cell 0
        have cz5_1_1 : w5.cell? ⟨w1.heap.size, 1, none⟩ = some (.slice A9 n9 c9) := z5_1.cell 1
        have lz5_1 := lts0 z5_1.lt
        have cz5_2_0 : w5.cell? ⟨w3.heap.size, 0, none⟩ = some (.bool bs) := z5_2.cell 0
        have cz5_2_1 : w5.cell? ⟨w3.heap.size, 1, none⟩ = some (.slice As ns cs) := z5_2.cell 1
        have lz5_2 := lts0 z5_2.lt
        go_wp2_with fail
        refine wp_region_lin (B := w.heap.size) (fr := fun xf => ⟨List.toArray (.string ⟨T.toArray⟩ :: strV B :: .int .i64 (N : Nat) :: undef :: undef :: undef :: .pointer (some ⟨w.heap.size, 0, none⟩) :: u7 :: .bool true :: .pointer (some ⟨w1.heap.size, 0, none⟩) :: .int .i64 0 :: .pointer (some ⟨w3.heap.size, 0, none⟩) :: .int .i64 (i : Nat) :: strV F :: .int .i64 (F.length : Nat) :: .bool true :: .bool true :: strV F :: .int .u8 45 :: .bool true :: .bool true :: .bool true :: strV F :: .string ⟨T.toArray⟩ :: .tuple #[.agg #[.bool b1, .slice A1 n1 c1], .int .i64 0] :: .string ⟨T.toArray⟩ :: .tuple #[.agg #[.bool b1, .slice A1 n1 c1], .int .i64 0] :: .agg #[.bool b1, .slice A1 n1 c1] :: .int .i64 0 :: .int .i64 0 :: .bool false :: .bool false :: .agg #[.bool b1, .slice A1 n1 c1] :: .int .i64 s :: .bool false :: .bool false :: .bool false :: strV B :: .int .i64 (B.length : Nat) :: .bool false :: .bool false :: .bool false :: .int .i64 (N : Nat) :: .bool false :: .bool false :: undef :: .agg #[.bool b3, .slice A3 n3 c3] :: strV B :: .int .i64 (B.length : Nat) :: .int .i64 (i : Nat) :: .bool true :: .int .i64 (i : Nat) :: strV B :: .int .i64 (i : Nat) :: .int .u8 (dn : Nat) :: .bool false :: .bool false :: strV B :: .int .i64 (i : Nat) :: .int .u8 (dn : Nat) :: .bool false :: .bool false :: u62 :: y5 0 :: y5 1 :: y5 2 :: y5 3 :: y5 4 :: y5 5 :: y5 6 :: y5 7 :: y5 8 :: y5 9 :: xf 0 :: xf 1 :: xf 2 :: u76 :: undef :: undef :: undef :: undef :: undef :: undef :: []), []⟩) (R := fun ri => List.getD ((PEq (.agg #[.bool bs, .slice As ns cs])) :: (VI ((10 : Int)) (1)) :: (VI ((((10 ^ i : Nat) : Int)) * ((10 : Int))) ((64) + (1))) :: PAny :: []) ri (fun _ _ => True)) (es := []) (ow := [⟨w.heap.size, 4, 0, 24, #[.bool false, .slice none 0 0, .slice none 0 0], CAny⟩, ⟨w1.heap.size, 4, 0, 77, #[.bool b9, .slice A9 n9 c9], CAny⟩, ⟨w3.heap.size, 3, 0, 77, #[.bool bs, .slice As ns cs], CI ((((10 ^ i : Nat) : Int)) * ((10 : Int))) ((64) + (1))⟩]) (x0 := (upd (upd (upd (fun _ => undef) 0 (u73)) 1 (u74)) 2 (u75))) (by kernel_rfl)
          (each_of ⟨fun _ _ => rfl, fun _ _ => rfl, fun _ _ => rfl, fun _ _ => rfl, trivial⟩) (each_of (acyc_from _ 0 (by kernel_rfl))) (AllStab.get _ ⟨stEq _, stI _ _, stI _ _, stAny, trivial⟩)
          (fun _ h => nomatch h) (fmc ⟨scAny, fmc ⟨scAny, fmc ⟨scI _ _, fun _ h => nomatch h⟩⟩⟩) (fun _ h => nomatch h) bw5.size
          (fmc ⟨⟨z5_0, by show w.heap.size ≤ w.heap.size; omega⟩, fmc ⟨⟨z5_1, by show w.heap.size ≤ w1.heap.size; omega⟩, fmc ⟨⟨z5_2, by show w.heap.size ≤ w3.heap.size; omega⟩, fun _ h => nomatch h⟩⟩⟩) (ownDist (by simp <;> omega))
          (each_of ⟨?_, ?_, ?_, ?_, trivial⟩) ?_
        · exact .inl ⟨by simp, by simp, fun xf wq hk hbl hd K hK => by
            have y : Blk wq w3.heap.size 77 #[.bool bs, .slice As ns cs] := hbl _ (List.Mem.tail _ (List.Mem.tail _ (List.Mem.head _))) (by simp [Region.binds])
            obtain ⟨hcl0, hcl1⟩ := y.c2
            (try dsimp only)
            go_simp
            exact hK.out (.agg #[.bool bs, .slice As ns cs]) _ rfl (brefl _)⟩
        · exact .inl ⟨by simp, by simp, fun xf wq hk hbl hd K hK => by
            (try dsimp only)
            go_simp
            go_at_call 65
            (with_reducible refine (r01_of1 _ (10) ?_ ?_).mono ?_); (omega); (omega); rintro e wr ⟨b12, A12, n12, c12, rfl, h12, hbr⟩
            exact hK.out _ _ ⟨b12, A12, n12, c12, rfl, h12⟩ hbr⟩
        · exact .inl ⟨by simp, by simp, fun xf wq hk hbl hd K hK => by
            have dq0 : xf 0 = .agg #[.bool bs, .slice As ns cs] := hd ⟨0, .data⟩ (by simp) rfl
            obtain ⟨b12, A12, n12, c12, dq1, h12⟩ : VI ((10 : Int)) (1) (xf 1) wq := hd ⟨1, .data⟩ (by simp) rfl
            (try dsimp only); (try simp only [dq0, dq1])
            go_simp
            go_at_call 70
            (with_reducible refine (r01_mul _ bs As ns cs (((10 ^ i : Nat) : Int)) (64) ?_ b12 A12 n12 c12 ((10 : Int)) (1) ?_ ?_).mono ?_); (exact (hp.keep hk).iz); (exact h12.iz); (omega); rintro e wr ⟨b13, A13, n13, c13, rfl, h13, hbr⟩
            have hz := hK.out _ _ ⟨b13, A13, n13, c13, rfl, h13⟩ hbr
            simp only [dq0, dq1] at hz
            exact hz⟩
        · exact .inr (.inr (.inr ⟨⟨w3.heap.size, 3, 0, 77, #[.bool bs, .slice As ns cs], CI ((((10 ^ i : Nat) : Int)) * ((10 : Int))) ((64) + (1))⟩, by simp, rfl, by simp, by simp, (show KT 77 = false by decide), fun _ _ => True.intro, fun xf wq hblk hd => by
            obtain ⟨b13, A13, n13, c13, dq2, h13⟩ : VI ((((10 ^ i : Nat) : Int)) * ((10 : Int))) ((64) + (1)) (xf 2) wq := hd ⟨2, .data⟩ (by simp) rfl
            dsimp only at hblk
            refine ⟨[.bool b13, .slice A13 n13 c13], fun w' hk => ⟨b13, A13, n13, c13, rfl, h13.keep hk⟩, fun K hK => ?_⟩
            have hc0 : wq.cell? ⟨w3.heap.size, 0, none⟩ = some (.bool bs) := hblk.cell 0
            have hc1 : wq.cell? ⟨w3.heap.size, 1, none⟩ = some (.slice As ns cs) := hblk.cell 1
            have hf0 : wq.frozen? ⟨w3.heap.size, 0, none⟩ = false := hblk.frozen 0
            have hf1 : wq.frozen? ⟨w3.heap.size, 1, none⟩ = false := hblk.frozen 1
            (try dsimp only)
            simp only [dq2]
            go_simp
            have hz := hK.out undef
            simp only [dq2] at hz
            exact hz⟩))
        clear cz5_1_0 cz5_1_1 lz5_1 cz5_2_0 cz5_2_1 lz5_2
        intro y11 w11 kq11 hbl11 lw11 how hrr hfl hds
        replace ho := ho.keep kq11
        replace hp := hp.keep kq11
        replace h9 := h9.keep kq11
        replace hkp := hkp.trans kq11
        obtain ⟨_, z11_0, ez, _⟩ := how _ (List.Mem.head _)
        obtain rfl := ez (by simp)
        dsimp only at z11_0
        obtain ⟨_, z11_1, ez, _⟩ := how _ (List.Mem.tail _ (List.Mem.head _))
        obtain rfl := ez (by simp)
        dsimp only at z11_1
        obtain ⟨_, z11_2, _, ez⟩ := how _ (List.Mem.tail _ (List.Mem.tail _ (List.Mem.head _)))
        obtain ⟨b13, A13, n13, c13, rfl, h13⟩ := ez (by simp)
        dsimp only at z11_2
        (try dsimp only)
        clear hrr hfl how hds 
        clear z5_0 z5_1 z5_2
        have bw11 := bw5.trans hbl11
        clear bw5
        have cz11_2_0 : w11.cell? ⟨w3.heap.size, 0, none⟩ = some (.bool b13) := z11_2.cell 0
        have cz11_2_1 : w11.cell? ⟨w3.heap.size, 1, none⟩ = some (.slice A13 n13 c13) := z11_2.cell 1
        have lz11_2 := lts0 z11_2.lt
        go_wp2_with fail
        have hN2 := h9.resz (K := 64) (by rw [HNI.out]; exact HB1.out)
        rw [HNI.out] at hN2
        have hS2 := h13.resz (K := 64) (by rw [ten_succ]; exact HB2.out)
        rw [ten_succ] at hS2
        clear cz11_2_0 cz11_2_1 lz11_2
        go_roundw
        case rel => exact ⟨i + 1, b9, A9, n9, c9, b13, A13, n13, c13, by go_num, by omega, HAL, hN2, hS2, hkp, bw11, by omega, z11_0, z11_1, z11_2⟩
        case measure => simp [intOf]; omega
      · have hor : dn < 48 ∨ (48 ≤ dn ∧ 57 < dn) := by
          unfold isDg at hdg; rw [hdn] at hdg; simp at hdg; omega
        have HR := Lib.hid (show x = 2 ∧ r = 0 by
          rcases HXR.out with ⟨e, _⟩ | ⟨_, e⟩
          · exact absurd (List.all_eq_true.1 e d (by rw [← hd]; exact List.getElem_mem _)) hdg
          · exact e)
        clear hd hdg hts
        rcases hor with h8 | ⟨h8, h82⟩
        · have cx1aa : wr.cell? ⟨w.heap.size, 0, none⟩ = some (.bool false) := x1a.cell 0
          have fx1aa : wr.frozen? ⟨w.heap.size, 0, none⟩ = false := x1a.frozen 0
          have cx1ab : wr.cell? ⟨w.heap.size, 1, none⟩ = some (.slice none 0 0) := x1a.cell 1
          have fx1ab : wr.frozen? ⟨w.heap.size, 1, none⟩ = false := x1a.frozen 1
          have cx1ac : wr.cell? ⟨w.heap.size, 2, none⟩ = some (.slice none 0 0) := x1a.cell 2
          have fx1ac : wr.frozen? ⟨w.heap.size, 2, none⟩ = false := x1a.frozen 2
          obtain ⟨lx1aa, lx1ab, lx1ac, lx1ad⟩ := lts0 x1a.lt
          go_wp2_with fail
          rw [HR.out.1, HR.out.2]
          refine bodyPost_ret (v := .tuple #[.agg #[.bool false, .slice none 0 0, .slice none 0 0], .int .i64 2]) (by simp [results, Tryz.results74, go_sem, *] <;> trivial) rfl ?_
          exact ⟨_, _, _, _, _, _, _, rfl, QV.zero _ _, (((hbw.sc w.heap.size 0 (by omega) (.bool false)).sc w.heap.size 1 (by omega) (.slice none 0 0)).sc w.heap.size 2 (by omega) (.slice none 0 0))⟩
        · have cx1aa : wr.cell? ⟨w.heap.size, 0, none⟩ = some (.bool false) := x1a.cell 0
          have fx1aa : wr.frozen? ⟨w.heap.size, 0, none⟩ = false := x1a.frozen 0
          have cx1ab : wr.cell? ⟨w.heap.size, 1, none⟩ = some (.slice none 0 0) := x1a.cell 1
          have fx1ab : wr.frozen? ⟨w.heap.size, 1, none⟩ = false := x1a.frozen 1
          have cx1ac : wr.cell? ⟨w.heap.size, 2, none⟩ = some (.slice none 0 0) := x1a.cell 2
          have fx1ac : wr.frozen? ⟨w.heap.size, 2, none⟩ = false := x1a.frozen 2
          obtain ⟨lx1aa, lx1ab, lx1ac, lx1ad⟩ := lts0 x1a.lt
          go_wp2_with fail
          rw [HR.out.1, HR.out.2]
          refine bodyPost_ret (v := .tuple #[.agg #[.bool false, .slice none 0 0, .slice none 0 0], .int .i64 2]) (by simp [results, Tryz.results74, go_sem, *] <;> trivial) rfl ?_
          exact ⟨_, _, _, _, _, _, _, rfl, QV.zero _ _, (((hbw.sc w.heap.size 0 (by omega) (.bool false)).sc w.heap.size 1 (by omega) (.slice none 0 0)).sc w.heap.size 2 (by omega) (.slice none 0 0))⟩
    · have hiN : i = B.length := by omega
      subst hiN
      have hall2 : B.all isDg = true := by have := hall.out; rw [List.take_length] at this; exact this
      have HR := Lib.hid (show x = 0 ∧ r = decQ F B by
        rcases HXR.out with ⟨_, e⟩ | ⟨e, _⟩
        · exact e
        · rw [hall2] at e; cases e)
      have HSQ := Lib.hid (show Sz (decQ F B) 64 by
        rw [← HQ.out]
        exact Sz_divInt (by rw [Int.natAbs_neg]; exact NI_lt HX3.out.1 hall2 (Nat.le_refl _) HX3.out.2) (ten_lt hB64) (by decide))
      clear hall2
      obtain ⟨cx2aa, cx2ab⟩ := x2a.c2
      obtain ⟨lx2aa, lx2ab, lx2ac, lx2ad⟩ := lts0 x2a.lt
      go_wp2_with fail
      (with_reducible refine (r01_neg _ bn An nn cn (NI (X : Int) B B.length) (64) ?_ ?_).mono ?_); (exact ho.iz); (omega); rintro e w5 ⟨b5, A5, n5, c5, rfl, h5, q5⟩
      clear cx2aa cx2ab lx2aa lx2ab lx2ac lx2ad
      replace ho := ho.belw q5
      replace hp := hp.belw q5
      replace hkp := hkp.below q5
      replace x1a := x1a.b q5
      replace x2a := x2a.b q5
      replace x4a := x4a.b q5
      have bw5 := hbw.trans (q5.mono hbw.size)
      have lw5 := q5.size
      clear q5
      obtain ⟨cx2aa, cx2ab⟩ := x2a.c2
      have fx2a := x2a.f2
      obtain ⟨lx2aa, lx2ab, lx2ac, lx2ad⟩ := lts0 x2a.lt
      have cx4a := x4a.c2
      have lx4a := lts0 x4a.lt
      go_wp2_with fail
      clear cx2aa fx2a cx2ab lx2aa lx2ab lx2ac lx2ad cx4a lx4a
      have p6 := (((Kp.refl w5).sb w1.heap.size 0 x2a.box (by decide) (.bool b5)).sb w1.heap.size 1 (x2a.box.set ⟨w1.heap.size, 0, none⟩ (.bool b5)) (by decide) (.slice A5 n5 c5))
      have bw6 := ((bw5.sc w1.heap.size 0 (by omega) (.bool b5)).sc w1.heap.size 1 (by omega) (.slice A5 n5 c5))
      replace x1a := ((x1a.fr w1.heap.size 0 (by omega) (.bool b5)).fr w1.heap.size 1 (by omega) (.slice A5 n5 c5))
      replace x2a := ((x2a.set_at 0 (.bool b5) #[.bool b5, .slice An nn cn] (by simp)).set_at 1 (.slice A5 n5 c5) #[.bool b5, .slice A5 n5 c5] (by simp))
      replace x4a := ((x4a.fr w1.heap.size 0 (by omega) (.bool b5)).fr w1.heap.size 1 (by omega) (.slice A5 n5 c5))
      have lw6 : w5.heap.size + 0 ≤ ((w5.setCell ⟨w1.heap.size, 0, none⟩ (.bool b5)).setCell ⟨w1.heap.size, 1, none⟩ (.slice A5 n5 c5)).heap.size := by simp
      generalize hE6 : ((w5.setCell ⟨w1.heap.size, 0, none⟩ (.bool b5)).setCell ⟨w1.heap.size, 1, none⟩ (.slice A5 n5 c5)) = w6 at p6 bw6 lw6 x1a x2a x4a ⊢
      clear hE6
      replace ho := ho.keep p6
      replace hp := hp.keep p6
      replace h5 := h5.keep p6
      replace hkp := hkp.trans p6
      clear bw5
      (with_reducible refine (g_form _ b5 A5 n5 c5 (-(NI (X : Int) B B.length)) ((64)) ?_ bs As ns cs (((10 ^ B.length : Nat) : Int)) (64) ?_ (decQ F B) 64 ?_ ?_ ?_ ?_).mono ?_); (exact h5.iz); (exact hp.iz); (exact ten_ne _); (exact HQ.out); (exact HSQ.out); (omega); rintro e w7 ⟨b7, A7, n7, c7, A'7, n'7, c'7, rfl, h7, q7⟩
      replace ho := ho.belw q7
      replace hp := hp.belw q7
      replace h5 := h5.belw q7
      replace hkp := hkp.below q7
      replace x1a := x1a.b q7
      replace x2a := x2a.b q7
      replace x4a := x4a.b q7
      have bw7 := bw6.trans (q7.mono bw6.size)
      have lw7 := q7.size
      clear q7 bw6
      obtain ⟨cx1aa, cx1ab, cx1ac⟩ := x1a.c3
      obtain ⟨fx1aa, fx1ab, fx1ac⟩ := x1a.f3
      obtain ⟨lx1aa, lx1ab, lx1ac, lx1ad⟩ := lts0 x1a.lt
      go_wp2_with fail
      refine bodyPost_ret (v := .tuple #[.agg #[.bool b7, .slice A7 n7 c7, .slice A'7 n'7 c'7], .int .i64 0]) (by simp [results, Tryz.results74, go_sem, *] <;> trivial) rfl ?_
      rw [HR.out.1, HR.out.2]
      exact ⟨_, _, _, _, _, _, _, rfl, (h7).keep ((((Kp.refl w7).sb w.heap.size 0 x1a.box (by decide) (.bool b7)).sb w.heap.size 1 (x1a.box.set ⟨w.heap.size, 0, none⟩ (.bool b7)) (by decide) (.slice A7 n7 c7)).sb w.heap.size 2 ((x1a.box.set ⟨w.heap.size, 0, none⟩ (.bool b7)).set ⟨w.heap.size, 1, none⟩ (.slice A7 n7 c7)) (by decide) (.slice A'7 n'7 c'7)), (((bw7.sc w.heap.size 0 (by omega) (.bool b7)).sc w.heap.size 1 (by omega) (.slice A7 n7 c7)).sc w.heap.size 2 (by omega) (.slice A'7 n'7 c'7))⟩
theorem g_dec_1f (w : World) (F B : List UInt8) (N : Nat) (hF6 : F.length ≤ 65536) (hm : headM F = false) (hF : F ≠ []) (ho : okZ (tailS F) = false) :
  Calls Tryz.prog 74 #[strV F, strV B, .int .i64 (N : Nat)] w (RetFe w (.int .i64 2) 0 64) := by
 have htlB := toList_v B
 have hszB := size_v B
 have hszF := size_v F
 obtain ⟨T, hT⟩ : ∃ T, tailS F = T := ⟨_, rfl⟩
 have hFT : T = F := by
  rcases head_cases F with ⟨b, _⟩ | ⟨_, b⟩
  ·rw [hm] at b; cases b
  ·rw [← hT]; exact b
 obtain ⟨x0, xs0, hx0⟩ := List.exists_cons_of_ne_nil hF
 have hgetF : ∀ h, (⟨F.toArray⟩ : ByteArray)[0]'h = x0 := fun h => by subst hx0; rfl
 have hn45 : x0 ≠ 45 := fun e => by rw [hx0, e] at hm; cases hm
 have hcn : x0.toNat ≠ 45 := fun e => hn45 (UInt8.toNat.inj e)
 have hcz : ¬ (x0.toNat : Int) = 45 := by omega
 have hcb : ((x0.toNat : Int) == 45) = false := by simp; omega
 have hl0 : 0 < F.length := by rw [hx0]; simp
 have hTF : T.length ≤ F.length := by rw [hFT]; exact Nat.le_refl _
 have HO := Lib.hid (show okZ T = false by rw [← hT]; exact ho)
 clear hT hm ho hn45 hcn hx0
 subst hFT
 go_enter Tryz.func74, Tryz.ntmps74
 go_wp2_with fail
 (with_reducible refine (r_parse_bad _ (T) (by omega) HO.out).mono ?_); rintro e w1 ⟨b1, A1, n1, c1, rfl, h1, hb1⟩
 have q1 := hb1.q1
 have x1a : Blk w1 w.heap.size 24 #[.bool false, .slice none 0 0, .slice none 0 0] := (blkAt _ _ _ (by simp)).below hb1 (by simp)
 have bw1 := (brefl w).trans (q1.mono (brefl w).size)
 have lw1 := hb1.l1
 clear q1
 have cx1a := x1a.c3
 have fx1a := x1a.f3
 have lx1a := lts0 x1a.lt
 go_wp2_with fail
 refine bodyPost_ret (v := .tuple #[.agg #[.bool false, .slice none 0 0, .slice none 0 0], .int .i64 2]) (by simp [results, Tryz.results74, go_sem, *] <;> trivial) rfl ?_
 exact ⟨_, _, _, _, _, _, _, rfl, QV.zero _ _, ((((bw1.sc w.heap.size 0 (by omega) (.bool false)).sc w.heap.size 1 (by omega) (.slice none 0 0)).sc w.heap.size 2 (by omega) (.slice none 0 0)).alloc (by first | omega | (simp <;> omega)) (.cells #[.bool b1, .slice A1 n1 c1] 77))⟩
theorem g_dec_2f (w : World) (F B : List UInt8) (N : Nat) (hF6 : F.length ≤ 65536) (hm : headM F = false) (hF : F ≠ []) (ho : okZ (tailS F) = true) (hs : (valZ (tailS F)).sign = -1) :
  Calls Tryz.prog 74 #[strV F, strV B, .int .i64 (N : Nat)] w (RetFe w (.int .i64 2) 0 64) := by
 have htlB := toList_v B
 have hszB := size_v B
 have hszF := size_v F
 obtain ⟨T, hT⟩ : ∃ T, tailS F = T := ⟨_, rfl⟩
 have hFT : T = F := by
  rcases head_cases F with ⟨b, _⟩ | ⟨_, b⟩
  ·rw [hm] at b; cases b
  ·rw [← hT]; exact b
 obtain ⟨x0, xs0, hx0⟩ := List.exists_cons_of_ne_nil hF
 have hgetF : ∀ h, (⟨F.toArray⟩ : ByteArray)[0]'h = x0 := fun h => by subst hx0; rfl
 have hn45 : x0 ≠ 45 := fun e => by rw [hx0, e] at hm; cases hm
 have hcn : x0.toNat ≠ 45 := fun e => hn45 (UInt8.toNat.inj e)
 have hcz : ¬ (x0.toNat : Int) = 45 := by omega
 have hcb : ((x0.toNat : Int) == 45) = false := by simp; omega
 have hl0 : 0 < F.length := by rw [hx0]; simp
 have hTF : T.length ≤ F.length := by rw [hFT]; exact Nat.le_refl _
 have HO := Lib.hid (show okZ T = true by rw [← hT]; exact ho)
 have HS := Lib.hid (show (valZ T).sign = -1 by rw [← hT]; exact hs)
 clear hs
 clear hT hm ho hn45 hcn hx0
 subst hFT
 go_enter Tryz.func74, Tryz.ntmps74
 go_wp2_with fail
 (with_reducible refine (r_parse_ok _ (T) (by omega) HO.out).mono ?_); rintro e w1 ⟨b1, A1, n1, c1, rfl, h1, hb1⟩
 have q1 := hb1.q1
 have x1a : Blk w1 w.heap.size 24 #[.bool false, .slice none 0 0, .slice none 0 0] := (blkAt _ _ _ (by simp)).below hb1 (by simp)
 have bw1 := (brefl w).trans (q1.mono (brefl w).size)
 have lw1 := hb1.l1
 clear q1
 go_wp2_with fail
 (with_reducible refine (r01_sign_e _ b1 A1 n1 c1 (valZ T) (T.length) ?_ ((-1)) ?_ ?_).mono ?_); (exact (h1.belw ((Below.refl _ _).alloc (Nat.le_refl _) _)).iz); (exact HS.out); (omega); rintro e w2 ⟨rfl, hb2⟩
 have q2 := hb2.q1
 replace h1 := h1.belw q2
 replace x1a := x1a.b q2
 have x2a : Blk w2 w1.heap.size 77 #[.bool b1, .slice A1 n1 c1] := (blkAt _ _ _ (by simp)).below hb2 (by simp)
 have bw2 := bw1.trans (q2.mono bw1.size)
 have lw2 := hb2.l1
 clear q2 bw1
 have cx1a := x1a.c3
 have fx1a := x1a.f3
 have lx1a := lts0 x1a.lt
 go_wp2_with fail
 refine bodyPost_ret (v := .tuple #[.agg #[.bool false, .slice none 0 0, .slice none 0 0], .int .i64 2]) (by simp [results, Tryz.results74, go_sem, *] <;> trivial) rfl ?_
 exact ⟨_, _, _, _, _, _, _, rfl, QV.zero _ _, (((bw2.sc w.heap.size 0 (by omega) (.bool false)).sc w.heap.size 1 (by omega) (.slice none 0 0)).sc w.heap.size 2 (by omega) (.slice none 0 0))⟩
theorem g_dec_3f (w : World) (F B : List UInt8) (N : Nat) (hF6 : F.length ≤ 65536) (hm : headM F = false) (hF : F ≠ []) (ho : okZ (tailS F) = true) (hs : 0 ≤ (valZ (tailS F)).sign) (hB : B.length = 0) :
  Calls Tryz.prog 74 #[strV F, strV B, .int .i64 (N : Nat)] w (RetFe w (.int .i64 2) 0 64) := by
 have htlB := toList_v B
 have hszB := size_v B
 have hszF := size_v F
 obtain ⟨T, hT⟩ : ∃ T, tailS F = T := ⟨_, rfl⟩
 have hFT : T = F := by
  rcases head_cases F with ⟨b, _⟩ | ⟨_, b⟩
  ·rw [hm] at b; cases b
  ·rw [← hT]; exact b
 obtain ⟨x0, xs0, hx0⟩ := List.exists_cons_of_ne_nil hF
 have hgetF : ∀ h, (⟨F.toArray⟩ : ByteArray)[0]'h = x0 := fun h => by subst hx0; rfl
 have hn45 : x0 ≠ 45 := fun e => by rw [hx0, e] at hm; cases hm
 have hcn : x0.toNat ≠ 45 := fun e => hn45 (UInt8.toNat.inj e)
 have hcz : ¬ (x0.toNat : Int) = 45 := by omega
 have hcb : ((x0.toNat : Int) == 45) = false := by simp; omega
 have hl0 : 0 < F.length := by rw [hx0]; simp
 have hTF : T.length ≤ F.length := by rw [hFT]; exact Nat.le_refl _
 have HO := Lib.hid (show okZ T = true by rw [← hT]; exact ho)
 obtain ⟨s, hs1⟩ : ∃ s, (valZ T).sign = s := ⟨_, rfl⟩
 have es : (s < 0) = False := by simp; rw [← hs1, ← hT]; exact hs
 have HS := Lib.hid hs1
 have hBz : ((B.length : Int) == 0) = true := by rw [hB]; rfl
 clear hs hs1
 clear hT hm ho hn45 hcn hx0
 subst hFT
 go_enter Tryz.func74, Tryz.ntmps74
 go_wp2_with fail
 (with_reducible refine (r_parse_ok _ (T) (by omega) HO.out).mono ?_); rintro e w1 ⟨b1, A1, n1, c1, rfl, h1, hb1⟩
 have q1 := hb1.q1
 have x1a : Blk w1 w.heap.size 24 #[.bool false, .slice none 0 0, .slice none 0 0] := (blkAt _ _ _ (by simp)).below hb1 (by simp)
 have bw1 := (brefl w).trans (q1.mono (brefl w).size)
 have lw1 := hb1.l1
 clear q1
 go_wp2_with fail
 (with_reducible refine (r01_sign_e _ b1 A1 n1 c1 (valZ T) (T.length) ?_ (s) ?_ ?_).mono ?_); (exact (h1.belw ((Below.refl _ _).alloc (Nat.le_refl _) _)).iz); (exact HS.out); (omega); rintro e w2 ⟨rfl, hb2⟩
 have q2 := hb2.q1
 replace h1 := h1.belw q2
 replace x1a := x1a.b q2
 have x2a : Blk w2 w1.heap.size 77 #[.bool b1, .slice A1 n1 c1] := (blkAt _ _ _ (by simp)).below hb2 (by simp)
 have bw2 := bw1.trans (q2.mono bw1.size)
 have lw2 := hb2.l1
 clear q2 bw1
 have cx1a := x1a.c3
 have fx1a := x1a.f3
 have lx1a := lts0 x1a.lt
 go_wp2_with fail
 refine bodyPost_ret (v := .tuple #[.agg #[.bool false, .slice none 0 0, .slice none 0 0], .int .i64 2]) (by simp [results, Tryz.results74, go_sem, *] <;> trivial) rfl ?_
 exact ⟨_, _, _, _, _, _, _, rfl, QV.zero _ _, (((bw2.sc w.heap.size 0 (by omega) (.bool false)).sc w.heap.size 1 (by omega) (.slice none 0 0)).sc w.heap.size 2 (by omega) (.slice none 0 0))⟩
theorem g_dec_5f (w : World) (F B : List UInt8) (N : Nat) (hF6 : F.length ≤ 65536) (hm : headM F = false) (hF : F ≠ []) (ho : okZ (tailS F) = true) (hs : 0 ≤ (valZ (tailS F)).sign) (hB : B ≠ []) (hN : 64 < N) :
  Calls Tryz.prog 74 #[strV F, strV B, .int .i64 (N : Nat)] w (RetFe w (.int .i64 2) 0 64) := by
 have htlB := toList_v B
 have hszB := size_v B
 have hszF := size_v F
 obtain ⟨T, hT⟩ : ∃ T, tailS F = T := ⟨_, rfl⟩
 have hFT : T = F := by
  rcases head_cases F with ⟨b, _⟩ | ⟨_, b⟩
  ·rw [hm] at b; cases b
  ·rw [← hT]; exact b
 obtain ⟨x0, xs0, hx0⟩ := List.exists_cons_of_ne_nil hF
 have hgetF : ∀ h, (⟨F.toArray⟩ : ByteArray)[0]'h = x0 := fun h => by subst hx0; rfl
 have hn45 : x0 ≠ 45 := fun e => by rw [hx0, e] at hm; cases hm
 have hcn : x0.toNat ≠ 45 := fun e => hn45 (UInt8.toNat.inj e)
 have hcz : ¬ (x0.toNat : Int) = 45 := by omega
 have hcb : ((x0.toNat : Int) == 45) = false := by simp; omega
 have hl0 : 0 < F.length := by rw [hx0]; simp
 have hTF : T.length ≤ F.length := by rw [hFT]; exact Nat.le_refl _
 have HO := Lib.hid (show okZ T = true by rw [← hT]; exact ho)
 obtain ⟨s, hs1⟩ : ∃ s, (valZ T).sign = s := ⟨_, rfl⟩
 have es : (s < 0) = False := by simp; rw [← hs1, ← hT]; exact hs
 have HS := Lib.hid hs1
 have hBz : ((B.length : Int) == 0) = false := by simp; exact hB
 clear hs hs1
 clear hT hm ho hn45 hcn hx0
 subst hFT
 go_enter Tryz.func74, Tryz.ntmps74
 go_wp2_with fail
 (with_reducible refine (r_parse_ok _ (T) (by omega) HO.out).mono ?_); rintro e w1 ⟨b1, A1, n1, c1, rfl, h1, hb1⟩
 have q1 := hb1.q1
 have x1a : Blk w1 w.heap.size 24 #[.bool false, .slice none 0 0, .slice none 0 0] := (blkAt _ _ _ (by simp)).below hb1 (by simp)
 have bw1 := (brefl w).trans (q1.mono (brefl w).size)
 have lw1 := hb1.l1
 clear q1
 go_wp2_with fail
 (with_reducible refine (r01_sign_e _ b1 A1 n1 c1 (valZ T) (T.length) ?_ (s) ?_ ?_).mono ?_); (exact (h1.belw ((Below.refl _ _).alloc (Nat.le_refl _) _)).iz); (exact HS.out); (omega); rintro e w2 ⟨rfl, hb2⟩
 have q2 := hb2.q1
 replace h1 := h1.belw q2
 replace x1a := x1a.b q2
 have x2a : Blk w2 w1.heap.size 77 #[.bool b1, .slice A1 n1 c1] := (blkAt _ _ _ (by simp)).below hb2 (by simp)
 have bw2 := bw1.trans (q2.mono bw1.size)
 have lw2 := hb2.l1
 clear q2 bw1
 have cx1a := x1a.c3
 have fx1a := x1a.f3
 have lx1a := lts0 x1a.lt
 go_wp2_with fail
 refine bodyPost_ret (v := .tuple #[.agg #[.bool false, .slice none 0 0, .slice none 0 0], .int .i64 2]) (by simp [results, Tryz.results74, go_sem, *] <;> trivial) rfl ?_
 exact ⟨_, _, _, _, _, _, _, rfl, QV.zero _ _, (((bw2.sc w.heap.size 0 (by omega) (.bool false)).sc w.heap.size 1 (by omega) (.slice none 0 0)).sc w.heap.size 2 (by omega) (.slice none 0 0))⟩
theorem g_dec_okf (w : World) (F B : List UInt8) (N : Nat) (hFB : F.length + B.length ≤ 64) (hm : headM F = false) (hF : F ≠ []) (ho : okZ (tailS F) = true) (hz : 0 ≤ valZ (tailS F)) (hB : B ≠ []) (hN : N ≤ 64) (x : Int) (r : Rat) (hxr : (B.all isDg = true ∧ x = 0 ∧ r = decQ F B) ∨ (B.all isDg = false ∧ x = 2 ∧ r = 0)) :
    Calls Tryz.prog 74 #[strV F, strV B, .int .i64 (N : Nat)] w (RetFe w (.int .i64 x) r 64) := by
  have hF6 : F.length ≤ 65536 := by omega
  have htlB := toList_v B
  have hszB := size_v B
  have hszF := size_v F
  obtain ⟨T, hT⟩ : ∃ T, tailS F = T := ⟨_, rfl⟩
  have hFT : T = F := by
    rcases head_cases F with ⟨b, _⟩ | ⟨_, b⟩
    · rw [hm] at b; cases b
    · rw [← hT]; exact b
  obtain ⟨x0, xs0, hx0⟩ := List.exists_cons_of_ne_nil hF
  have hgetF : ∀ h, (⟨F.toArray⟩ : ByteArray)[0]'h = x0 := fun h => by subst hx0; rfl
  have hn45 : x0 ≠ 45 := fun e => by rw [hx0, e] at hm; cases hm
  have hcn : x0.toNat ≠ 45 := fun e => hn45 (UInt8.toNat.inj e)
  have hcz : ¬ (x0.toNat : Int) = 45 := by omega
  have hcb : ((x0.toNat : Int) == 45) = false := by simp; omega
  have hl0 : 0 < F.length := by rw [hx0]; simp
  have hTF : T.length ≤ F.length := by rw [hFT]; exact Nat.le_refl _
  have HO := Lib.hid (show okZ T = true by rw [← hT]; exact ho)
  have hs : 0 ≤ (valZ (tailS F)).sign := sign_nn hz
  obtain ⟨s, hs1⟩ : ∃ s, (valZ T).sign = s := ⟨_, rfl⟩
  have es : (s < 0) = False := by simp; rw [← hs1, ← hT]; exact hs
  have HS := Lib.hid hs1
  obtain ⟨X, hX⟩ : ∃ X : Nat, valZ T = (X : Int) := ⟨(valZ T).toNat, by rw [← hT]; omega⟩
  obtain ⟨J, hJ, hX2⟩ : ∃ J, J ≤ T.length ∧ X < 10 ^ J := dec_lt (by rw [← hT]; exact ho) hX
  have HX3 := Lib.hid (And.intro hX2 (show J + B.length ≤ 64 by omega))
  have HX2 := Lib.hid hX
  have HQ := Lib.hid (show Rat.divInt (NI (X : Int) B B.length) ((10 ^ B.length : Nat) : Int) = decQ F B by
    unfold decQ decN; rw [hm, hT, hX, NI_len]; push_cast; rfl)
  have HXR := Lib.hid hxr
  have hB64 : B.length ≤ 64 := by omega
  have eN : ((64 : Int) < (N : Int)) = False := by simp; omega
  have hBz : ((B.length : Int) == 0) = false := by simp; exact hB
  have hBp : 0 < B.length := List.length_pos_iff.2 hB
  clear hs hs1 hz hX hX2 hJ hxr hB
  clear hT hm ho hn45 hcn hx0
  subst hFT
  go_enter Tryz.func74, Tryz.ntmps74
  go_wp2_with fail
  (with_reducible refine (r_parse_ok _ (T) (by omega) HO.out).mono ?_); rintro e w1 ⟨b1, A1, n1, c1, rfl, h1, hb1⟩
  have q1 := hb1.q1
  have x1a : Blk w1 w.heap.size 24 #[.bool false, .slice none 0 0, .slice none 0 0] := (blkAt _ _ _ (by simp)).below hb1 (by simp)
  have bw1 := (brefl w).trans (q1.mono (brefl w).size)
  have lw1 := hb1.l1
  clear q1
  go_wp2_with fail
  (with_reducible refine (r01_sign_e _ b1 A1 n1 c1 (valZ T) (T.length) ?_ (s) ?_ ?_).mono ?_); (exact (h1.belw ((Below.refl _ _).alloc (Nat.le_refl _) _)).iz); (exact HS.out); (omega); rintro e w2 ⟨rfl, hb2⟩
  have q2 := hb2.q1
  replace h1 := h1.belw q2
  replace x1a := x1a.b q2
  have x2a : Blk w2 w1.heap.size 77 #[.bool b1, .slice A1 n1 c1] := (blkAt _ _ _ (by simp)).below hb2 (by simp)
  have bw2 := bw1.trans (q2.mono bw1.size)
  have lw2 := hb2.l1
  clear q2 bw1
  go_wp2_with fail
  (with_reducible refine (g_one _).mono ?_); rintro e w3 ⟨b3, A3, n3, c3, rfl, h3, q3⟩
  replace h1 := h1.belw q3
  replace x1a := x1a.b q3
  replace x2a := x2a.b q3
  have bw3 := bw2.trans (q3.mono bw2.size)
  have lw3 := q3.size
  clear q3 bw2
  go_wp2_with fail
  have p4 := ((Kp.refl w3).alloc (.cells #[.bool b3, .slice A3 n3 c3] 77))
  have bw4 := (bw3.alloc (by first | omega | (simp <;> omega)) (.cells #[.bool b3, .slice A3 n3 c3] 77))
  have x4a : Blk (w3.alloc (.cells #[.bool b3, .slice A3 n3 c3] 77)) w3.heap.size 77 #[.bool b3, .slice A3 n3 c3] := (blkAt _ _ _ (by simp))
  replace x1a := (x1a.alloc (.cells #[.bool b3, .slice A3 n3 c3] 77))
  replace x2a := (x2a.alloc (.cells #[.bool b3, .slice A3 n3 c3] 77))
  have lw4 : w3.heap.size + 1 ≤ (w3.alloc (.cells #[.bool b3, .slice A3 n3 c3] 77)).heap.size := by simp
  generalize hE4 : (w3.alloc (.cells #[.bool b3, .slice A3 n3 c3] 77)) = w4 at p4 bw4 lw4 x4a x1a x2a ⊢
  clear hE4
  replace h1 := h1.keep p4
  replace h3 := h3.keep p4
  clear bw3
  go_loopw [49] (fun iv wr => ∃ (i : Nat) (bn : Bool) (An : Option Addr) (nn cn : Nat) (bs : Bool) (As : Option Addr) (ns cs : Nat), iv = .int .i64 (i : Nat) ∧ i ≤ B.length ∧ Hid ((B.take i).all isDg = true) ∧ IV wr bn An nn cn (NI (X : Int) B i) 64 ∧ IV wr bs As ns cs ((10 ^ i : Nat) : Int) 64 ∧ Kp w4 wr ∧ Below w.heap.size w wr ∧ w4.heap.size ≤ wr.heap.size ∧ Blk wr w.heap.size 24 #[.bool false, .slice none 0 0, .slice none 0 0] ∧ Blk wr w1.heap.size 77 #[.bool bn, .slice An nn cn] ∧ Blk wr w3.heap.size 77 #[.bool bs, .slice As ns cs]) (fun iv _ => B.length - (intOf iv).toNat)
  case atStart => exact ⟨0, b1, A1, n1, c1, b3, A3, n3, c3, rfl, Nat.zero_le _, Lib.hid rfl, (by rw [NI_zero, ← HX2.out]; exact h1.mono (by omega)), (by rw [show ((10 ^ 0 : Nat) : Int) = 1 from rfl]; exact h3.mono (by omega)), Kp.refl _, bw4, Nat.le_refl _, x1a, x2a, x4a⟩
  case round =>
    clear x1a
    clear x2a
    clear x4a
    obtain ⟨i, bn, An, nn, cn, bs, As, ns, cs, rfl, hi, hall, ho, hp, hkp, hbw, hlw, x1a, x2a, x4a⟩ := hrel
    replace h1 := h1.keep hkp
    replace h3 := h3.keep hkp
    by_cases hlt : i < B.length
    · obtain ⟨d, hd⟩ : ∃ d, B[i] = d := ⟨_, rfl⟩
      have hget : ∀ h, (⟨B.toArray⟩ : ByteArray)[i]'h = d := fun h => hd
      have hts : B.take (i + 1) = B.take i ++ [d] := by rw [List.take_succ_eq_append_getElem hlt, hd]
      obtain ⟨dn, hdn⟩ : ∃ dn, d.toNat = dn := ⟨_, rfl⟩
      have hi0 : (0 : Int) ≤ (i : Int) := by omega
      have hiL : (i : Int) < (B.length : Int) := by omega
      by_cases hdg : isDg d = true
      · have h8 : 48 ≤ dn ∧ dn ≤ 57 := by unfold isDg at hdg; rw [Bool.and_eq_true, decide_eq_true_eq, decide_eq_true_eq, hdn] at hdg; exact hdg
        obtain ⟨v, hv⟩ : ∃ v, dn - 48 = v := ⟨_, rfl⟩
        have e2 : (dn : Int) - 48 = (v : Int) := by omega
        have hv9 : v ≤ 9 := by omega
        have e48 : ((dn : Int) < 48) = False := by simp; omega
        have e57 : ((57 : Int) < (dn : Int)) = False := by simp; omega
        have HD : dval d = v := by unfold dval; rw [hdn]; exact hv
        have HNI := Lib.hid (show NI (X : Int) B i * 10 + (v : Nat) = NI (X : Int) B (i + 1) by rw [← NI_succ _ _ _ hlt, hd, HD])
        have HAL := Lib.hid (show (B.take (i + 1)).all isDg = true by rw [hts, List.all_append, hall.out]; simp [hdg])
        have HB1 := Lib.hid (NI_lt2 HX3.out.1 HAL.out (show i + 1 ≤ B.length by omega) HX3.out.2)
        have HB2 := Lib.hid (ten_lt (i := i + 1) (by omega))
        have hw8 : IntKind.u8.wrap (v : Int) = (v : Int) := IntWalk.u8_in _ ⟨by omega, by omega⟩
        have hw64 : IntKind.i64.wrap (v : Int) = (v : Int) := IntWalk.i64_in _ ⟨by omega, by omega⟩
        clear hd hdg h8 hv HD hts
        obtain ⟨cx2aa, cx2ab⟩ := x2a.c2
        obtain ⟨lx2aa, lx2ab, lx2ac, lx2ad⟩ := lts0 x2a.lt
        go_wp2_with fail
        refine wp_region_lin (B := w.heap.size) (fr := fun xf => ⟨List.toArray (strV T :: strV B :: .int .i64 (N : Nat) :: undef :: undef :: undef :: .pointer (some ⟨w.heap.size, 0, none⟩) :: u7 :: .bool false :: .pointer (some ⟨w1.heap.size, 0, none⟩) :: .int .i64 0 :: .pointer (some ⟨w3.heap.size, 0, none⟩) :: .int .i64 (i : Nat) :: strV T :: .int .i64 (T.length : Nat) :: .bool true :: .bool true :: strV T :: .int .u8 (x0.toNat : Nat) :: .bool false :: .bool false :: .bool false :: undef :: undef :: .tuple #[.agg #[.bool b1, .slice A1 n1 c1], .int .i64 0] :: strV T :: .tuple #[.agg #[.bool b1, .slice A1 n1 c1], .int .i64 0] :: .agg #[.bool b1, .slice A1 n1 c1] :: .int .i64 0 :: .int .i64 0 :: .bool false :: .bool false :: .agg #[.bool b1, .slice A1 n1 c1] :: .int .i64 s :: .bool false :: .bool false :: .bool false :: strV B :: .int .i64 (B.length : Nat) :: .bool false :: .bool false :: .bool false :: .int .i64 (N : Nat) :: .bool false :: .bool false :: undef :: .agg #[.bool b3, .slice A3 n3 c3] :: strV B :: .int .i64 (B.length : Nat) :: .int .i64 (i : Nat) :: .bool true :: .int .i64 (i : Nat) :: strV B :: .int .i64 (i : Nat) :: .int .u8 (dn : Nat) :: .bool false :: .bool false :: strV B :: .int .i64 (i : Nat) :: .int .u8 (dn : Nat) :: .bool false :: .bool false :: u62 :: xf 0 :: xf 1 :: xf 2 :: xf 3 :: xf 4 :: xf 5 :: xf 6 :: xf 7 :: xf 8 :: xf 9 :: u73 :: u74 :: u75 :: u76 :: undef :: undef :: undef :: undef :: undef :: undef :: []), []⟩) (R := fun ri => List.getD ((PEq (.agg #[.bool bn, .slice An nn cn])) :: (VI ((10 : Int)) (1)) :: (VI ((NI (X : Int) B i) * ((10 : Int))) ((64) + (1))) :: (PEq (strV B)) :: (PEq (.int .i64 (i : Nat))) :: (PEq (.int .u8 (dn : Nat))) :: (PEq (.int .u8 (v : Nat))) :: (PEq (.int .i64 (v : Nat))) :: (VI (((v : Nat) : Int)) (1)) :: (VI (((NI (X : Int) B i) * ((10 : Int))) + (((v : Nat) : Int))) (((64) + (1)) + (1) + 1)) :: PAny :: []) ri (fun _ _ => True)) (es := []) (ow := [⟨w.heap.size, 11, 0, 24, #[.bool false, .slice none 0 0, .slice none 0 0], CAny⟩, ⟨w1.heap.size, 10, 0, 77, #[.bool bn, .slice An nn cn], CI (((NI (X : Int) B i) * ((10 : Int))) + (((v : Nat) : Int))) (((64) + (1)) + (1) + 1)⟩, ⟨w3.heap.size, 11, 0, 77, #[.bool bs, .slice As ns cs], CAny⟩]) (x0 := (upd (upd (upd (upd (upd (upd (upd (upd (upd (upd (fun _ => undef) 0 (u63)) 1 (u64)) 2 (u65)) 3 (u66)) 4 (u67)) 5 (u68)) 6 (u69)) 7 (u70)) 8 (u71)) 9 (u72))) (by kernel_rfl)
          (each_of ⟨fun _ _ => rfl, fun _ _ => rfl, fun _ _ => rfl, fun _ _ => rfl, fun _ _ => rfl, fun _ _ => rfl, fun _ _ => rfl, fun _ _ => rfl, fun _ _ => rfl, fun _ _ => rfl, fun _ _ => rfl, trivial⟩) (each_of (acyc_from _ 0 (by kernel_rfl))) (AllStab.get _ ⟨stEq _, stI _ _, stI _ _, stEq _, stEq _, stEq _, stEq _, stEq _, stI _ _, stI _ _, stAny, trivial⟩)
          (fun _ h => nomatch h) (fmc ⟨scAny, fmc ⟨scI _ _, fmc ⟨scAny, fun _ h => nomatch h⟩⟩⟩) (fun _ h => nomatch h) hbw.size
          (fmc ⟨⟨x1a, by show w.heap.size ≤ w.heap.size; omega⟩, fmc ⟨⟨x2a, by show w.heap.size ≤ w1.heap.size; omega⟩, fmc ⟨⟨x4a, by show w.heap.size ≤ w3.heap.size; omega⟩, fun _ h => nomatch h⟩⟩⟩) (ownDist (by simp <;> omega))
          (each_of ⟨?_, ?_, ?_, ?_, ?_, ?_, ?_, ?_, ?_, ?_, ?_, trivial⟩) ?_
        · exact .inl ⟨by simp, by simp, fun xf wq hk hbl hd K hK => by
            have y : Blk wq w1.heap.size 77 #[.bool bn, .slice An nn cn] := hbl _ (List.Mem.tail _ (List.Mem.head _)) (by simp [Region.binds])
            obtain ⟨hcl0, hcl1⟩ := y.c2
            (try dsimp only)
            go_simp
            exact hK.out (.agg #[.bool bn, .slice An nn cn]) _ rfl (brefl _)⟩
        · exact .inl ⟨by simp, by simp, fun xf wq hk hbl hd K hK => by
            (try dsimp only)
            go_simp
            go_at_call 65
            (with_reducible refine (r01_of1 _ (10) ?_ ?_).mono ?_); (omega); (omega); rintro e wr ⟨b6, A6, n6, c6, rfl, h6, hbr⟩
            exact hK.out _ _ ⟨b6, A6, n6, c6, rfl, h6⟩ hbr⟩
        · exact .inl ⟨by simp, by simp, fun xf wq hk hbl hd K hK => by
            have dq0 : xf 0 = .agg #[.bool bn, .slice An nn cn] := hd ⟨0, .data⟩ (by simp) rfl
            obtain ⟨b6, A6, n6, c6, dq1, h6⟩ : VI ((10 : Int)) (1) (xf 1) wq := hd ⟨1, .data⟩ (by simp) rfl
            (try dsimp only); (try simp only [dq0, dq1])
            go_simp
            go_at_call 70
            (with_reducible refine (r01_mul _ bn An nn cn (NI (X : Int) B i) (64) ?_ b6 A6 n6 c6 ((10 : Int)) (1) ?_ ?_).mono ?_); (exact (ho.keep hk).iz); (exact h6.iz); (omega); rintro e wr ⟨b7, A7, n7, c7, rfl, h7, hbr⟩
            have hz := hK.out _ _ ⟨b7, A7, n7, c7, rfl, h7⟩ hbr
            simp only [dq0, dq1] at hz
            exact hz⟩
        · exact .inl ⟨by simp, by simp, fun xf wq hk hbl hd K hK => by
            (try dsimp only)
            go_simp
            exact hK.out (strV B) _ rfl (brefl _)⟩
        · exact .inl ⟨by simp, by simp, fun xf wq hk hbl hd K hK => by
            (try dsimp only)
            go_simp
            exact hK.out (.int .i64 (i : Nat)) _ rfl (brefl _)⟩
        · exact .inl ⟨by simp, by simp, fun xf wq hk hbl hd K hK => by
            have dq3 : xf 3 = strV B := hd ⟨3, .data⟩ (by simp) rfl
            have dq4 : xf 4 = .int .i64 (i : Nat) := hd ⟨4, .data⟩ (by simp) rfl
            (try dsimp only); (try simp only [dq3, dq4])
            go_simp
            have hz := hK.out (.int .u8 (dn : Nat)) _ rfl (brefl _)
            simp only [dq3, dq4] at hz
            exact hz⟩
        · exact .inl ⟨by simp, by simp, fun xf wq hk hbl hd K hK => by
            have dq5 : xf 5 = .int .u8 (dn : Nat) := hd ⟨5, .data⟩ (by simp) rfl
            (try dsimp only); (try simp only [dq5])
            go_simp
            have hz := hK.out (.int .u8 (v : Nat)) _ rfl (brefl _)
            simp only [dq5] at hz
            exact hz⟩
        · exact .inl ⟨by simp, by simp, fun xf wq hk hbl hd K hK => by
            have dq6 : xf 6 = .int .u8 (v : Nat) := hd ⟨6, .data⟩ (by simp) rfl
            (try dsimp only); (try simp only [dq6])
            go_simp
            have hz := hK.out (.int .i64 (v : Nat)) _ rfl (brefl _)
            simp only [dq6] at hz
            exact hz⟩
        · exact .inl ⟨by simp, by simp, fun xf wq hk hbl hd K hK => by
            have dq7 : xf 7 = .int .i64 (v : Nat) := hd ⟨7, .data⟩ (by simp) rfl
            (try dsimp only); (try simp only [dq7])
            go_simp
            go_at_call 65
            (with_reducible refine (r01_of1 _ ((v : Nat)) ?_ ?_).mono ?_); (omega); (omega); rintro e wr ⟨b8, A8, n8, c8, rfl, h8, hbr⟩
            have hz := hK.out _ _ ⟨b8, A8, n8, c8, rfl, h8⟩ hbr
            simp only [dq7] at hz
            exact hz⟩
        · exact .inl ⟨by simp, by simp, fun xf wq hk hbl hd K hK => by
            obtain ⟨b7, A7, n7, c7, dq2, h7⟩ : VI ((NI (X : Int) B i) * ((10 : Int))) ((64) + (1)) (xf 2) wq := hd ⟨2, .data⟩ (by simp) rfl
            obtain ⟨b8, A8, n8, c8, dq8, h8⟩ : VI (((v : Nat) : Int)) (1) (xf 8) wq := hd ⟨8, .data⟩ (by simp) rfl
            (try dsimp only); (try simp only [dq2, dq8])
            go_simp
            go_at_call 69
            (with_reducible refine (r01_add _ b7 A7 n7 c7 ((NI (X : Int) B i) * ((10 : Int))) ((64) + (1)) ?_ b8 A8 n8 c8 (((v : Nat) : Int)) (1) ?_ ?_).mono ?_); (exact h7.iz); (exact h8.iz); (omega); rintro e wr ⟨b9, A9, n9, c9, rfl, h9, hbr⟩
            have hz := hK.out _ _ ⟨b9, A9, n9, c9, rfl, h9⟩ hbr
            simp only [dq2, dq8] at hz
            exact hz⟩
        · exact .inr (.inr (.inr ⟨⟨w1.heap.size, 10, 0, 77, #[.bool bn, .slice An nn cn], CI (((NI (X : Int) B i) * ((10 : Int))) + (((v : Nat) : Int))) (((64) + (1)) + (1) + 1)⟩, by simp, rfl, by simp, by simp, (show KT 77 = false by decide), fun _ _ => True.intro, fun xf wq hblk hd => by
            obtain ⟨b9, A9, n9, c9, dq9, h9⟩ : VI (((NI (X : Int) B i) * ((10 : Int))) + (((v : Nat) : Int))) (((64) + (1)) + (1) + 1) (xf 9) wq := hd ⟨9, .data⟩ (by simp) rfl
            dsimp only at hblk
            refine ⟨[.bool b9, .slice A9 n9 c9], fun w' hk => ⟨b9, A9, n9, c9, rfl, h9.keep hk⟩, fun K hK => ?_⟩
            have hc0 : wq.cell? ⟨w1.heap.size, 0, none⟩ = some (.bool bn) := hblk.cell 0
            have hc1 : wq.cell? ⟨w1.heap.size, 1, none⟩ = some (.slice An nn cn) := hblk.cell 1
            have hf0 : wq.frozen? ⟨w1.heap.size, 0, none⟩ = false := hblk.frozen 0
            have hf1 : wq.frozen? ⟨w1.heap.size, 1, none⟩ = false := hblk.frozen 1
            (try dsimp only)
            simp only [dq9]
            go_simp
            have hz := hK.out undef
            simp only [dq9] at hz
            exact hz⟩))
        clear cx2aa cx2ab lx2aa lx2ab lx2ac lx2ad
        intro y5 w5 kq5 hbl5 lw5 how hrr hfl hds
        replace ho := ho.keep kq5
        replace hp := hp.keep kq5
        replace hkp := hkp.trans kq5
        obtain ⟨_, z5_0, ez, _⟩ := how _ (List.Mem.head _)
        obtain rfl := ez (by simp)
        dsimp only at z5_0
        obtain ⟨_, z5_1, _, ez⟩ := how _ (List.Mem.tail _ (List.Mem.head _))
        obtain ⟨b9, A9, n9, c9, rfl, h9⟩ := ez (by simp)
        dsimp only at z5_1
        obtain ⟨_, z5_2, ez, _⟩ := how _ (List.Mem.tail _ (List.Mem.tail _ (List.Mem.head _)))
        obtain rfl := ez (by simp)
        dsimp only at z5_2
        (try dsimp only)
        clear hrr hfl how hds 
        clear x1a x2a x4a
        have bw5 := hbw.trans hbl5
        have cz5_1_0 : w5.cell? ⟨w1.heap.size, 0, none⟩ = some (.bool b9) := z5_1.cell 0
        have cz5_1_1 : w5.cell? ⟨w1.heap.size, 1, none⟩ = some (.slice A9 n9 c9) := z5_1.cell 1
        have lz5_1 := lts0 z5_1.lt
        have cz5_2_0 : w5.cell? ⟨w3.heap.size, 0, none⟩ = some (.bool bs) := z5_2.cell 0
        have cz5_2_1 : w5.cell? ⟨w3.heap.size, 1, none⟩ = some (.slice As ns cs) := z5_2.cell 1
        have lz5_2 := lts0 z5_2.lt
        go_wp2_with fail
        refine wp_region_lin (B := w.heap.size) (fr := fun xf => ⟨List.toArray (strV T :: strV B :: .int .i64 (N : Nat) :: undef :: undef :: undef :: .pointer (some ⟨w.heap.size, 0, none⟩) :: u7 :: .bool false :: .pointer (some ⟨w1.heap.size, 0, none⟩) :: .int .i64 0 :: .pointer (some ⟨w3.heap.size, 0, none⟩) :: .int .i64 (i : Nat) :: strV T :: .int .i64 (T.length : Nat) :: .bool true :: .bool true :: strV T :: .int .u8 (x0.toNat : Nat) :: .bool false :: .bool false :: .bool false :: undef :: undef :: .tuple #[.agg #[.bool b1, .slice A1 n1 c1], .int .i64 0] :: strV T :: .tuple #[.agg #[.bool b1, .slice A1 n1 c1], .int .i64 0] :: .agg #[.bool b1, .slice A1 n1 c1] :: .int .i64 0 :: .int .i64 0 :: .bool false :: .bool false :: .agg #[.bool b1, .slice A1 n1 c1] :: .int .i64 s :: .bool false :: .bool false :: .bool false :: strV B :: .int .i64 (B.length : Nat) :: .bool false :: .bool false :: .bool false :: .int .i64 (N : Nat) :: .bool false :: .bool false :: undef :: .agg #[.bool b3, .slice A3 n3 c3] :: strV B :: .int .i64 (B.length : Nat) :: .int .i64 (i : Nat) :: .bool true :: .int .i64 (i : Nat) :: strV B :: .int .i64 (i : Nat) :: .int .u8 (dn : Nat) :: .bool false :: .bool false :: strV B :: .int .i64 (i : Nat) :: .int .u8 (dn : Nat) :: .bool false :: .bool false :: u62 :: y5 0 :: y5 1 :: y5 2 :: y5 3 :: y5 4 :: y5 5 :: y5 6 :: y5 7 :: y5 8 :: y5 9 :: xf 0 :: xf 1 :: xf 2 :: u76 :: undef :: undef :: undef :: undef :: undef :: undef :: []), []⟩) (R := fun ri => List.getD ((PEq (.agg #[.bool bs, .slice As ns cs])) :: (VI ((10 : Int)) (1)) :: (VI ((((10 ^ i : Nat) : Int)) * ((10 : Int))) ((64) + (1))) :: PAny :: []) ri (fun _ _ => True)) (es := []) (ow := [⟨w.heap.size, 4, 0, 24, #[.bool false, .slice none 0 0, .slice none 0 0], CAny⟩, ⟨w1.heap.size, 4, 0, 77, #[.bool b9, .slice A9 n9 c9], CAny⟩, ⟨w3.heap.size, 3, 0, 77, #[.bool bs, .slice As ns cs], CI ((((10 ^ i : Nat) : Int)) * ((10 : Int))) ((64) + (1))⟩]) (x0 := (upd (upd (upd (fun _ => undef) 0 (u73)) 1 (u74)) 2 (u75))) (by kernel_rfl)
          (each_of ⟨fun _ _ => rfl, fun _ _ => rfl, fun _ _ => rfl, fun _ _ => rfl, trivial⟩) (each_of (acyc_from _ 0 (by kernel_rfl))) (AllStab.get _ ⟨stEq _, stI _ _, stI _ _, stAny, trivial⟩)
          (fun _ h => nomatch h) (fmc ⟨scAny, fmc ⟨scAny, fmc ⟨scI _ _, fun _ h => nomatch h⟩⟩⟩) (fun _ h => nomatch h) bw5.size
          (fmc ⟨⟨z5_0, by show w.heap.size ≤ w.heap.size; omega⟩, fmc ⟨⟨z5_1, by show w.heap.size ≤ w1.heap.size; omega⟩, fmc ⟨⟨z5_2, by show w.heap.size ≤ w3.heap.size; omega⟩, fun _ h => nomatch h⟩⟩⟩) (ownDist (by simp <;> omega))
          (each_of ⟨?_, ?_, ?_, ?_, trivial⟩) ?_
        · exact .inl ⟨by simp, by simp, fun xf wq hk hbl hd K hK => by
            have y : Blk wq w3.heap.size 77 #[.bool bs, .slice As ns cs] := hbl _ (List.Mem.tail _ (List.Mem.tail _ (List.Mem.head _))) (by simp [Region.binds])
            obtain ⟨hcl0, hcl1⟩ := y.c2
            (try dsimp only)
            go_simp
            exact hK.out (.agg #[.bool bs, .slice As ns cs]) _ rfl (brefl _)⟩
        · exact .inl ⟨by simp, by simp, fun xf wq hk hbl hd K hK => by
            (try dsimp only)
            go_simp
            go_at_call 65
            (with_reducible refine (r01_of1 _ (10) ?_ ?_).mono ?_); (omega); (omega); rintro e wr ⟨b12, A12, n12, c12, rfl, h12, hbr⟩
            exact hK.out _ _ ⟨b12, A12, n12, c12, rfl, h12⟩ hbr⟩
        · exact .inl ⟨by simp, by simp, fun xf wq hk hbl hd K hK => by
            have dq0 : xf 0 = .agg #[.bool bs, .slice As ns cs] := hd ⟨0, .data⟩ (by simp) rfl
            obtain ⟨b12, A12, n12, c12, dq1, h12⟩ : VI ((10 : Int)) (1) (xf 1) wq := hd ⟨1, .data⟩ (by simp) rfl
            (try dsimp only); (try simp only [dq0, dq1])
            go_simp
            go_at_call 70
            (with_reducible refine (r01_mul _ bs As ns cs (((10 ^ i : Nat) : Int)) (64) ?_ b12 A12 n12 c12 ((10 : Int)) (1) ?_ ?_).mono ?_); (exact (hp.keep hk).iz); (exact h12.iz); (omega); rintro e wr ⟨b13, A13, n13, c13, rfl, h13, hbr⟩
            have hz := hK.out _ _ ⟨b13, A13, n13, c13, rfl, h13⟩ hbr
            simp only [dq0, dq1] at hz
            exact hz⟩
        · exact .inr (.inr (.inr ⟨⟨w3.heap.size, 3, 0, 77, #[.bool bs, .slice As ns cs], CI ((((10 ^ i : Nat) : Int)) * ((10 : Int))) ((64) + (1))⟩, by simp, rfl, by simp, by simp, (show KT 77 = false by decide), fun _ _ => True.intro, fun xf wq hblk hd => by
            obtain ⟨b13, A13, n13, c13, dq2, h13⟩ : VI ((((10 ^ i : Nat) : Int)) * ((10 : Int))) ((64) + (1)) (xf 2) wq := hd ⟨2, .data⟩ (by simp) rfl
            dsimp only at hblk
            refine ⟨[.bool b13, .slice A13 n13 c13], fun w' hk => ⟨b13, A13, n13, c13, rfl, h13.keep hk⟩, fun K hK => ?_⟩
            have hc0 : wq.cell? ⟨w3.heap.size, 0, none⟩ = some (.bool bs) := hblk.cell 0
            have hc1 : wq.cell? ⟨w3.heap.size, 1, none⟩ = some (.slice As ns cs) := hblk.cell 1
            have hf0 : wq.frozen? ⟨w3.heap.size, 0, none⟩ = false := hblk.frozen 0
            have hf1 : wq.frozen? ⟨w3.heap.size, 1, none⟩ = false := hblk.frozen 1
            (try dsimp only)
            simp only [dq2]
            go_simp
            have hz := hK.out undef
            simp only [dq2] at hz
            exact hz⟩))
        clear cz5_1_0 cz5_1_1 lz5_1 cz5_2_0 cz5_2_1 lz5_2
        intro y11 w11 kq11 hbl11 lw11 how hrr hfl hds
        replace ho := ho.keep kq11
        replace hp := hp.keep kq11
        replace h9 := h9.keep kq11
        replace hkp := hkp.trans kq11
        obtain ⟨_, z11_0, ez, _⟩ := how _ (List.Mem.head _)
        obtain rfl := ez (by simp)
        dsimp only at z11_0
        obtain ⟨_, z11_1, ez, _⟩ := how _ (List.Mem.tail _ (List.Mem.head _))
        obtain rfl := ez (by simp)
        dsimp only at z11_1
        obtain ⟨_, z11_2, _, ez⟩ := how _ (List.Mem.tail _ (List.Mem.tail _ (List.Mem.head _)))
        obtain ⟨b13, A13, n13, c13, rfl, h13⟩ := ez (by simp)
        dsimp only at z11_2
        (try dsimp only)
        clear hrr hfl how hds 
        clear z5_0 z5_1 z5_2
        have bw11 := bw5.trans hbl11
        clear bw5
        have cz11_2_0 : w11.cell? ⟨w3.heap.size, 0, none⟩ = some (.bool b13) := z11_2.cell 0
        have cz11_2_1 : w11.cell? ⟨w3.heap.size, 1, none⟩ = some (.slice A13 n13 c13) := z11_2.cell 1
        have lz11_2 := lts0 z11_2.lt
        go_wp2_with fail
        have hN2 := h9.resz (K := 64) (by rw [HNI.out]; exact HB1.out)
        rw [HNI.out] at hN2
        have hS2 := h13.resz (K := 64) (by rw [ten_succ]; exact HB2.out)
        rw [ten_succ] at hS2
        clear cz11_2_0 cz11_2_1 lz11_2
        go_roundw
        case rel => exact ⟨i + 1, b9, A9, n9, c9, b13, A13, n13, c13, by go_num, by omega, HAL, hN2, hS2, hkp, bw11, by omega, z11_0, z11_1, z11_2⟩
        case measure => simp [intOf]; omega
      · have hor : dn < 48 ∨ (48 ≤ dn ∧ 57 < dn) := by
          unfold isDg at hdg; rw [hdn] at hdg; simp at hdg; omega
        have HR := Lib.hid (show x = 2 ∧ r = 0 by
          rcases HXR.out with ⟨e, _⟩ | ⟨_, e⟩
          · exact absurd (List.all_eq_true.1 e d (by rw [← hd]; exact List.getElem_mem _)) hdg
          · exact e)
        clear hd hdg hts
        rcases hor with h8 | ⟨h8, h82⟩
        · have cx1aa : wr.cell? ⟨w.heap.size, 0, none⟩ = some (.bool false) := x1a.cell 0
          have fx1aa : wr.frozen? ⟨w.heap.size, 0, none⟩ = false := x1a.frozen 0
          have cx1ab : wr.cell? ⟨w.heap.size, 1, none⟩ = some (.slice none 0 0) := x1a.cell 1
          have fx1ab : wr.frozen? ⟨w.heap.size, 1, none⟩ = false := x1a.frozen 1
          have cx1ac : wr.cell? ⟨w.heap.size, 2, none⟩ = some (.slice none 0 0) := x1a.cell 2
          have fx1ac : wr.frozen? ⟨w.heap.size, 2, none⟩ = false := x1a.frozen 2
          obtain ⟨lx1aa, lx1ab, lx1ac, lx1ad⟩ := lts0 x1a.lt
          go_wp2_with fail
          rw [HR.out.1, HR.out.2]
          refine bodyPost_ret (v := .tuple #[.agg #[.bool false, .slice none 0 0, .slice none 0 0], .int .i64 2]) (by simp [results, Tryz.results74, go_sem, *] <;> trivial) rfl ?_
          exact ⟨_, _, _, _, _, _, _, rfl, QV.zero _ _, (((hbw.sc w.heap.size 0 (by omega) (.bool false)).sc w.heap.size 1 (by omega) (.slice none 0 0)).sc w.heap.size 2 (by omega) (.slice none 0 0))⟩
        · have cx1aa : wr.cell? ⟨w.heap.size, 0, none⟩ = some (.bool false) := x1a.cell 0
          have fx1aa : wr.frozen? ⟨w.heap.size, 0, none⟩ = false := x1a.frozen 0
          have cx1ab : wr.cell? ⟨w.heap.size, 1, none⟩ = some (.slice none 0 0) := x1a.cell 1
          have fx1ab : wr.frozen? ⟨w.heap.size, 1, none⟩ = false := x1a.frozen 1
          have cx1ac : wr.cell? ⟨w.heap.size, 2, none⟩ = some (.slice none 0 0) := x1a.cell 2
          have fx1ac : wr.frozen? ⟨w.heap.size, 2, none⟩ = false := x1a.frozen 2
          obtain ⟨lx1aa, lx1ab, lx1ac, lx1ad⟩ := lts0 x1a.lt
          go_wp2_with fail
          rw [HR.out.1, HR.out.2]
          refine bodyPost_ret (v := .tuple #[.agg #[.bool false, .slice none 0 0, .slice none 0 0], .int .i64 2]) (by simp [results, Tryz.results74, go_sem, *] <;> trivial) rfl ?_
          exact ⟨_, _, _, _, _, _, _, rfl, QV.zero _ _, (((hbw.sc w.heap.size 0 (by omega) (.bool false)).sc w.heap.size 1 (by omega) (.slice none 0 0)).sc w.heap.size 2 (by omega) (.slice none 0 0))⟩
    · have hiN : i = B.length := by omega
      subst hiN
      have hall2 : B.all isDg = true := by have := hall.out; rw [List.take_length] at this; exact this
      have HR := Lib.hid (show x = 0 ∧ r = decQ T B by
        rcases HXR.out with ⟨_, e⟩ | ⟨e, _⟩
        · exact e
        · rw [hall2] at e; cases e)
      have HSQ := Lib.hid (show Sz (decQ T B) 64 by
        rw [← HQ.out]
        exact Sz_divInt (by exact NI_lt HX3.out.1 hall2 (Nat.le_refl _) HX3.out.2) (ten_lt hB64) (by decide))
      clear hall2
      obtain ⟨cx2aa, cx2ab⟩ := x2a.c2
      obtain ⟨lx2aa, lx2ab, lx2ac, lx2ad⟩ := lts0 x2a.lt
      have cx4a := x4a.c2
      have lx4a := lts0 x4a.lt
      go_wp2_with fail
      (with_reducible refine (g_form _ bn An nn cn (NI (X : Int) B B.length) (64) ?_ bs As ns cs (((10 ^ B.length : Nat) : Int)) (64) ?_ (decQ T B) 64 ?_ ?_ ?_ ?_).mono ?_); (exact ho.iz); (exact hp.iz); (exact ten_ne _); (exact HQ.out); (exact HSQ.out); (omega); rintro e w5 ⟨b5, A5, n5, c5, A'5, n'5, c'5, rfl, h5, q5⟩
      clear cx2aa cx2ab lx2aa lx2ab lx2ac lx2ad cx4a lx4a
      replace ho := ho.belw q5
      replace hp := hp.belw q5
      replace hkp := hkp.below q5
      replace x1a := x1a.b q5
      replace x2a := x2a.b q5
      replace x4a := x4a.b q5
      have bw5 := hbw.trans (q5.mono hbw.size)
      have lw5 := q5.size
      clear q5
      obtain ⟨cx1aa, cx1ab, cx1ac⟩ := x1a.c3
      obtain ⟨fx1aa, fx1ab, fx1ac⟩ := x1a.f3
      obtain ⟨lx1aa, lx1ab, lx1ac, lx1ad⟩ := lts0 x1a.lt
      go_wp2_with fail
      refine bodyPost_ret (v := .tuple #[.agg #[.bool b5, .slice A5 n5 c5, .slice A'5 n'5 c'5], .int .i64 0]) (by simp [results, Tryz.results74, go_sem, *] <;> trivial) rfl ?_
      rw [HR.out.1, HR.out.2]
      exact ⟨_, _, _, _, _, _, _, rfl, (h5).keep ((((Kp.refl w5).sb w.heap.size 0 x1a.box (by decide) (.bool b5)).sb w.heap.size 1 (x1a.box.set ⟨w.heap.size, 0, none⟩ (.bool b5)) (by decide) (.slice A5 n5 c5)).sb w.heap.size 2 ((x1a.box.set ⟨w.heap.size, 0, none⟩ (.bool b5)).set ⟨w.heap.size, 1, none⟩ (.slice A5 n5 c5)) (by decide) (.slice A'5 n'5 c'5)), (((bw5.sc w.heap.size 0 (by omega) (.bool b5)).sc w.heap.size 1 (by omega) (.slice A5 n5 c5)).sc w.heap.size 2 (by omega) (.slice A'5 n'5 c'5))⟩
theorem g_dec_0 (w : World) (B : List UInt8) (N : Nat) :
  Calls Tryz.prog 74 #[strV [], strV B, .int .i64 (N : Nat)] w (RetFe w (.int .i64 2) 0 64) := by
 obtain ⟨T, hT⟩ : ∃ T : List UInt8, T = [] := ⟨_, rfl⟩
 have hszF := size_v []
 have HO := Lib.hid (show okZ [] = false from rfl)
 go_enter Tryz.func74, Tryz.ntmps74
 go_wp2_with fail
 (with_reducible refine (r_parse_bad _ ([]) (by simp) HO.out).mono ?_); rintro e w1 ⟨b1, A1, n1, c1, rfl, h1, hb1⟩
 have q1 := hb1.q1
 have x1a : Blk w1 w.heap.size 24 #[.bool false, .slice none 0 0, .slice none 0 0] := (blkAt _ _ _ (by simp)).below hb1 (by simp)
 have bw1 := (brefl w).trans (q1.mono (brefl w).size)
 have lw1 := hb1.l1
 clear q1
 have cx1a := x1a.c3
 have fx1a := x1a.f3
 have lx1a := lts0 x1a.lt
 go_wp2_with fail
 refine bodyPost_ret (v := .tuple #[.agg #[.bool false, .slice none 0 0, .slice none 0 0], .int .i64 2]) (by simp [results, Tryz.results74, go_sem, *] <;> trivial) rfl ?_
 exact ⟨_, _, _, _, _, _, _, rfl, QV.zero _ _, ((((bw1.sc w.heap.size 0 (by omega) (.bool false)).sc w.heap.size 1 (by omega) (.slice none 0 0)).sc w.heap.size 2 (by omega) (.slice none 0 0)).alloc (by first | omega | (simp <;> omega)) (.cells #[.bool b1, .slice A1 n1 c1] 77))⟩
end Go.Proofs.YtianjkiakkclgaaGreatDoor

/- Walks: fraction.Parse. -/
namespace Go.Proofs.YtianjkiakkclgaaGreatDoor
open Go Go.RowKit Bn
attribute [local go_sem ↓] Go.wp_at_zero Go.wp_at_succ
def Mx (w : World) : Prop := ∃ m, w.cell? ⟨0, 0, none⟩ = some (.int .i64 m)
theorem Mx.belw {w w' : World} (h : Mx w) (hb : Below w.heap.size w w') : Mx w' := by
  obtain ⟨m, hm⟩ := h
  exact ⟨m, (hb.cell (p := ⟨0, 0, none⟩) (World.block_lt_of_cell? w _ hm)).trans hm⟩
theorem cut_v (w : World) (s : List UInt8) (c : UInt8) (a b : List UInt8) (f : Bool) (hm : Mx w) (hl : s.length ≤ 65536) (hc : Lib.cut s [c] = (a, b, f)) : Calls Tryz.prog 58 #[strV s, .string ⟨#[c]⟩] w (RetV w (.tuple #[strV a, strV b, .bool f])) := by
  obtain ⟨m, hm⟩ := hm
  refine (Tryz.strings_Cut ⟨s.toArray⟩ ⟨#[c]⟩ m w (by show s.length < _; omega) hm).mono fun e w' ⟨he, n, hw⟩ => ⟨?_, hw ▸ below_drewN (brefl _) n⟩
  rw [he]
  show Ending.returned (.tuple #[strV (Lib.cut s [c]).1, strV (Lib.cut s [c]).2.1, .bool (Lib.cut s [c]).2.2]) = _
  rw [hc]
theorem valZ_lt {l : List UInt8} (h : okZ l = true) : (valZ l).natAbs < 4294967296 ^ l.length := by
  obtain ⟨h0, h1, h2⟩ := okZ_parts h
  have h3 := decVal_words h1
  have h4 : 4294967296 ^ (tailS l).length ≤ 4294967296 ^ l.length := Nat.pow_le_pow_right (by omega) (tailS_len l)
  unfold valZ
  split <;> omega
theorem valZ_ltK {l : List UInt8} {K : Nat} (h : okZ l = true) (hl : l.length ≤ K) : (valZ l).natAbs < 4294967296 ^ K := Nat.lt_of_lt_of_le (valZ_lt h) (Nat.pow_le_pow_right (by decide) hl)
theorem valZ_lt2 {l : List UInt8} (h : okZ l = true) (hl : l.length ≤ 65536) : (valZ l).natAbs < 4294967296 ^ 65536 :=
  valZ_ltK (K := 65536) h hl
theorem errV_2 : errV 2 = .iface 57 (.int .i64 2) := if_neg (by decide)
theorem errV_4 : errV 4 = .iface 57 (.int .i64 4) := if_neg (by decide)
theorem f_dec_o (w : World) (F B : List UInt8) (hFB : F.length + B.length ≤ 64) (x : Int) (q : Rat) (h : (decOk F B = true ∧ x = 0 ∧ q = decQ F B) ∨ (decOk F B = false ∧ x = 2 ∧ q = 0)) : Calls Tryz.prog 59 #[strV F, strV B] w (RetFe w (errV x) q 64) := by
  rcases h with ⟨h, rfl, rfl⟩ | ⟨h, rfl, rfl⟩
  · rw [errV_0]
    obtain ⟨h1, h2, h3, h4⟩ := decOk_parts h
    cases hm : headM F
    · exact f_dec_ok_f w F B hFB hm h1 h2 h3 h4
    · exact f_dec_ok_t w F B hFB hm h1 h2 h3 h4
  · rw [errV_2]
    rcases decOk_not h with h1 | ⟨h1, h2⟩ | ⟨h1, h2, h3⟩ | ⟨h1, h2, h3, h4⟩
    · exact f_dec_1 w F B hFB h1
    · exact f_dec_2 w F B hFB h1 (Int.sign_eq_neg_one_iff_neg.2 h2)
    · subst h3; exact f_dec_3 w F (by simpa using hFB) h1 (sign_nn h2)
    · exact f_dec_4 w F B hFB h1 (sign_nn h2) h3 h4
theorem g_dec_o (w : World) (F B : List UInt8) (N : Nat) (hN : F.length + B.length + 1 = N) (hN6 : N ≤ 65536) (x : Int) (q : Rat) (h : (N ≤ 64 ∧ decOk F B = true ∧ x = 0 ∧ q = decQ F B) ∨ ((64 < N ∨ decOk F B = false) ∧ x = 2 ∧ q = 0)) : Calls Tryz.prog 74 #[strV F, strV B, .int .i64 (N : Nat)] w (RetFe w (.int .i64 x) q 64) := by
  have hF6 : F.length ≤ 65536 := by omega
  rcases h with ⟨h64, h, rfl, rfl⟩ | ⟨h, rfl, rfl⟩
  · obtain ⟨h1, h2, h3, h4⟩ := decOk_parts h
    cases hm : headM F
    · have hF : F ≠ [] := fun e => by subst e; cases h1
      exact g_dec_okf w F B N (by omega) hm hF h1 h2 h3 h64 0 _ (.inl ⟨h4, rfl, rfl⟩)
    · exact g_dec_okt w F B N (by omega) hm h1 h2 h3 h64 0 _ (.inl ⟨h4, rfl, rfl⟩)
  · by_cases hF : F = []
    · subst hF; exact g_dec_0 w B N
    · cases ho : okZ (tailS F)
      · cases hm : headM F
        · exact g_dec_1f w F B N hF6 hm hF ho
        · exact g_dec_1t w F B N hF6 hm ho
      · by_cases hz : valZ (tailS F) < 0
        · have hs := Int.sign_eq_neg_one_iff_neg.2 hz
          cases hm : headM F
          · exact g_dec_2f w F B N hF6 hm hF ho hs
          · exact g_dec_2t w F B N hF6 hm ho hs
        · have hs := sign_nn (show 0 ≤ valZ (tailS F) by omega)
          by_cases hB : B = []
          · have hB0 : B.length = 0 := by rw [hB]; rfl
            cases hm : headM F
            · exact g_dec_3f w F B N hF6 hm hF ho hs hB0
            · exact g_dec_3t w F B N hF6 hm ho hs hB0
          · by_cases h64 : 64 < N
            · cases hm : headM F
              · exact g_dec_5f w F B N hF6 hm hF ho hs hB h64
              · exact g_dec_5t w F B N hF6 hm ho hs hB h64
            · have ha : B.all isDg = false := by
                rcases h with h | h
                · exact absurd h h64
                · rcases decOk_not h with h1 | ⟨h1, h2⟩ | ⟨h1, h2, h3⟩ | ⟨h1, h2, h3, h4⟩
                  · rw [ho] at h1; cases h1
                  · exact absurd h2 hz
                  · exact absurd h3 hB
                  · exact h4
              cases hm : headM F
              · exact g_dec_okf w F B N (by omega) hm hF ho (by omega) hB (by omega) 2 _ (.inr ⟨ha, rfl, rfl⟩)
              · exact g_dec_okt w F B N (by omega) hm ho (by omega) hB (by omega) 2 _ (.inr ⟨ha, rfl, rfl⟩)
theorem f_dec_ev (w : World) (F B : List UInt8) (hFB : F.length + B.length ≤ 64) (x : Int) (q : Rat) (h : (decOk F B = true ∧ x = 0 ∧ q = decQ F B) ∨ (decOk F B = false ∧ x = 2 ∧ q = 0)) (ev : Value) (he : errV x = ev) : Calls Tryz.prog 59 #[strV F, strV B] w (RetFe w ev q 64) := by
  subst he; exact f_dec_o w F B hFB x q h
theorem i_parse_ev (w : World) (l : List UInt8) (x z : Int) (ev : Value) (h : ParseOut l x z) (he : errV x = ev) : Calls Tryz.prog 60 #[strV l] w (RetIe w ev z 65536) := by
  subst he; exact i_parse_o w l x z h
theorem i_parse_ok6 (w : World) (l : List UInt8) (hl : l.length ≤ 65536) (hb : okZ l = true) : Calls Tryz.prog 60 #[strV l] w (RetIe w .nilIface (valZ l) 65536) :=
  (i_parse_ok w l hl hb).mono fun _ _ r => r.mono hl
theorem i_parse_one (w : World) (l : List UInt8) : l = [49] → Calls Tryz.prog 60 #[strV l] w (RetIe w .nilIface 1 1) := by
  rintro rfl; exact i_parse_ok w [49] (by decide) (by decide)
theorem f_parse_big (w : World) (s : List UInt8) (hl : 65536 < s.length) :
  Calls Tryz.prog 31 #[strV s] w (RetFe w (.iface 57 (.int .i64 4)) 0 1) := by
 have hszs := size_v s
 have hlen : ((65536 : Int) < (s.length : Int)) = True := by simp; omega
 go_enter Tryz.func31, Tryz.ntmps31
 go_wp2_with fail
 refine bodyPost_ret (v := .tuple #[.agg #[.bool false, .slice none 0 0, .slice none 0 0], .iface 57 (.int .i64 4)]) (by simp [results, Tryz.results31, go_sem, *] <;> trivial) rfl ?_
 exact ⟨_, _, _, _, _, _, _, rfl, QV.zero _ _, ((brefl w).alloc (by first | omega | (simp <;> omega)) (.cells #[.bool false, .slice none 0 0, .slice none 0 0] 24))⟩
theorem f_parse_dot1 (w : World) (s F B : List UInt8) (hmx : Mx w) (hl : s.length ≤ 65536) (hc : Lib.cut s [46] = (F, B, true)) (h64 : 64 < s.length) :
  Calls Tryz.prog 31 #[strV s] w (RetFe w (.iface 57 (.int .i64 2)) 0 64) := by
 have hszs := size_v s
 have hlen : ((65536 : Int) < (s.length : Int)) = False := by simp; omega
 have h64t : ((64 : Int) < (s.length : Int)) = True := by simp; omega
 have HC := Lib.hid hc
 clear hc
 go_enter Tryz.func31, Tryz.ntmps31
 go_wp2_with fail
 (with_reducible refine (cut_v _ (s) 46 (F) (B) true (hmx.belw ((brefl w).alloc (by first | omega | (simp <;> omega)) (.cells #[.bool false, .slice none 0 0, .slice none 0 0] 24))) (by omega) HC.out).mono ?_); rintro e w1 ⟨rfl, hb1⟩
 have q1 := hb1.q1
 have x1a : Blk w1 w.heap.size 24 #[.bool false, .slice none 0 0, .slice none 0 0] := (blkAt _ _ _ (by simp)).below hb1 (by simp)
 have bw1 := (brefl w).trans (q1.mono (brefl w).size)
 have lw1 := hb1.l1
 clear q1
 have cx1a := x1a.c3
 have fx1a := x1a.f3
 have lx1a := lts0 x1a.lt
 go_wp2_with fail
 refine bodyPost_ret (v := .tuple #[.agg #[.bool false, .slice none 0 0, .slice none 0 0], .iface 57 (.int .i64 2)]) (by simp [results, Tryz.results31, go_sem, *] <;> trivial) rfl ?_
 exact ⟨_, _, _, _, _, _, _, rfl, QV.zero _ _, (((bw1.sc w.heap.size 0 (by omega) (.bool false)).sc w.heap.size 1 (by omega) (.slice none 0 0)).sc w.heap.size 2 (by omega) (.slice none 0 0))⟩
theorem f_parse_dot2 (w : World) (s F B : List UInt8) (hmx : Mx w) (hl : s.length ≤ 65536) (hc : Lib.cut s [46] = (F, B, true)) (h64 : s.length ≤ 64) (hFB : F.length + B.length ≤ 64) (x : Int) (q : Rat) (hx : (decOk F B = true ∧ x = 0 ∧ q = decQ F B) ∨ (decOk F B = false ∧ x = 2 ∧ q = 0)) :
  Calls Tryz.prog 31 #[strV s] w (RetFe w (errV x) q 64) := by
 have hszs := size_v s
 have hlen : ((65536 : Int) < (s.length : Int)) = False := by simp; omega
 have h64t : ((64 : Int) < (s.length : Int)) = False := by simp; omega
 have HC := Lib.hid hc
 have HX := Lib.hid hx
 clear hc hx
 obtain ⟨ev, hev⟩ : ∃ ev, errV x = ev := ⟨_, rfl⟩
 have HEV := Lib.hid hev
 rw [hev]
 clear hev
 go_enter Tryz.func31, Tryz.ntmps31
 go_wp2_with fail
 (with_reducible refine (cut_v _ (s) 46 (F) (B) true (hmx.belw ((brefl w).alloc (by first | omega | (simp <;> omega)) (.cells #[.bool false, .slice none 0 0, .slice none 0 0] 24))) (by omega) HC.out).mono ?_); rintro e w1 ⟨rfl, hb1⟩
 have q1 := hb1.q1
 have x1a : Blk w1 w.heap.size 24 #[.bool false, .slice none 0 0, .slice none 0 0] := (blkAt _ _ _ (by simp)).below hb1 (by simp)
 have bw1 := (brefl w).trans (q1.mono (brefl w).size)
 have lw1 := hb1.l1
 clear q1
 go_wp2_with fail
 (with_reducible refine (f_dec_ev _ (F) (B) hFB x q HX.out ev HEV.out).mono ?_); rintro e w2 ⟨b2, A2, n2, c2, A'2, n'2, c'2, rfl, h2, q2⟩
 replace x1a := x1a.b q2
 have bw2 := bw1.trans (q2.mono bw1.size)
 have lw2 := q2.size
 clear q2 bw1
 have cx1a := x1a.c3
 have fx1a := x1a.f3
 have lx1a := lts0 x1a.lt
 go_wp2_with fail
 refine bodyPost_ret (v := .tuple #[.agg #[.bool b2, .slice A2 n2 c2, .slice A'2 n'2 c'2], ev]) (by simp [results, Tryz.results31, go_sem, *] <;> trivial) rfl ?_
 exact ⟨b2, A2, n2, c2, A'2, n'2, c'2, rfl, h2.keep ((((Kp.refl w2).sb w.heap.size 0 x1a.box (by decide) (.bool b2)).sb w.heap.size 1 (x1a.box.set ⟨w.heap.size, 0, none⟩ (.bool b2)) (by decide) (.slice A2 n2 c2)).sb w.heap.size 2 ((x1a.box.set ⟨w.heap.size, 0, none⟩ (.bool b2)).set ⟨w.heap.size, 1, none⟩ (.slice A2 n2 c2)) (by decide) (.slice A'2 n'2 c'2)), (((bw2.sc w.heap.size 0 (by omega) (.bool b2)).sc w.heap.size 1 (by omega) (.slice A2 n2 c2)).sc w.heap.size 2 (by omega) (.slice A'2 n'2 c'2))⟩
theorem f_parse_q1 (w : World) (s F B : List UInt8) (hmx : Mx w) (hl : s.length ≤ 65536) (hd : Lib.cut s [46] = (s, [], false)) (hc : Lib.cut s [47] = (F, B, true)) (hF6 : F.length ≤ 65536) (hB6 : B.length ≤ 65536) (h1 : okZ F = false) :
  Calls Tryz.prog 31 #[strV s] w (RetFe w (.iface 57 (.int .i64 2)) 0 1) := by
 have hszs := size_v s
 have hlen : ((65536 : Int) < (s.length : Int)) = False := by simp; omega
 have HC := Lib.hid hc
 have HD := Lib.hid hd
 clear hc hd
 have H1 := Lib.hid h1
 clear h1
 obtain ⟨x2, z2, hp2⟩ := parseOut B
 obtain ⟨ev, hev⟩ : ∃ ev, errV x2 = ev := ⟨_, rfl⟩
 have HP2 := Lib.hid (And.intro hp2 hev)
 clear hp2 hev
 go_enter Tryz.func31, Tryz.ntmps31
 go_wp2_with fail
 (with_reducible refine (cut_v _ (s) 46 (s) ([]) false (hmx.belw ((brefl w).alloc (by first | omega | (simp <;> omega)) (.cells #[.bool false, .slice none 0 0, .slice none 0 0] 24))) (by omega) HD.out).mono ?_); rintro e w1 ⟨rfl, hb1⟩
 have q1 := hb1.q1
 have x1a : Blk w1 w.heap.size 24 #[.bool false, .slice none 0 0, .slice none 0 0] := (blkAt _ _ _ (by simp)).below hb1 (by simp)
 have bw1 := (brefl w).trans (q1.mono (brefl w).size)
 have lw1 := hb1.l1
 clear q1
 go_wp2_with fail
 (with_reducible refine (cut_v _ (s) 47 (F) (B) true (hmx.belw bw1) (by omega) HC.out).mono ?_); rintro e w2 ⟨rfl, q2⟩
 replace x1a := x1a.b q2
 have bw2 := bw1.trans (q2.mono bw1.size)
 have lw2 := q2.size
 clear q2 bw1
 go_wp2_with fail
 (with_reducible refine (i_parse_bad _ (F) (by omega) H1.out).mono ?_); rintro e w3 ⟨b3, A3, n3, c3, rfl, h3, q3⟩
 replace x1a := x1a.b q3
 have bw3 := bw2.trans (q3.mono bw2.size)
 have lw3 := q3.size
 clear q3 bw2
 go_wp2_with fail
 (with_reducible refine (i_parse_ev _ (B) x2 z2 ev HP2.out.1 HP2.out.2).mono ?_); rintro e w4 ⟨b4, A4, n4, c4, rfl, h4, hb4⟩
 have q4 := hb4.q1
 replace h3 := h3.belw q4
 replace x1a := x1a.b q4
 have x4a : Blk w4 w3.heap.size 77 #[.bool b3, .slice A3 n3 c3] := (blkAt _ _ _ (by simp)).below hb4 (by simp)
 have bw4 := bw3.trans (q4.mono bw3.size)
 have lw4 := hb4.l1
 clear q4 bw3
 have cx1a := x1a.c3
 have fx1a := x1a.f3
 have lx1a := lts0 x1a.lt
 go_wp2_with fail
 refine bodyPost_ret (v := .tuple #[.agg #[.bool false, .slice none 0 0, .slice none 0 0], .iface 57 (.int .i64 2)]) (by simp [results, Tryz.results31, go_sem, *] <;> trivial) rfl ?_
 exact ⟨_, _, _, _, _, _, _, rfl, QV.zero _ _, ((((bw4.sc w.heap.size 0 (by omega) (.bool false)).sc w.heap.size 1 (by omega) (.slice none 0 0)).sc w.heap.size 2 (by omega) (.slice none 0 0)).alloc (by first | omega | (simp <;> omega)) (.cells #[.bool b4, .slice A4 n4 c4] 77))⟩
theorem f_parse_q2 (w : World) (s F B : List UInt8) (hmx : Mx w) (hl : s.length ≤ 65536) (hd : Lib.cut s [46] = (s, [], false)) (hc : Lib.cut s [47] = (F, B, true)) (hF6 : F.length ≤ 65536) (hB6 : B.length ≤ 65536) (h1 : okZ F = true) (h2 : okZ B = false) :
  Calls Tryz.prog 31 #[strV s] w (RetFe w (.iface 57 (.int .i64 2)) 0 1) := by
 have hszs := size_v s
 have hlen : ((65536 : Int) < (s.length : Int)) = False := by simp; omega
 have HC := Lib.hid hc
 have HD := Lib.hid hd
 clear hc hd
 have H1 := Lib.hid h1
 clear h1
 have H2 := Lib.hid h2
 clear h2
 go_enter Tryz.func31, Tryz.ntmps31
 go_wp2_with fail
 (with_reducible refine (cut_v _ (s) 46 (s) ([]) false (hmx.belw ((brefl w).alloc (by first | omega | (simp <;> omega)) (.cells #[.bool false, .slice none 0 0, .slice none 0 0] 24))) (by omega) HD.out).mono ?_); rintro e w1 ⟨rfl, hb1⟩
 have q1 := hb1.q1
 have x1a : Blk w1 w.heap.size 24 #[.bool false, .slice none 0 0, .slice none 0 0] := (blkAt _ _ _ (by simp)).below hb1 (by simp)
 have bw1 := (brefl w).trans (q1.mono (brefl w).size)
 have lw1 := hb1.l1
 clear q1
 go_wp2_with fail
 (with_reducible refine (cut_v _ (s) 47 (F) (B) true (hmx.belw bw1) (by omega) HC.out).mono ?_); rintro e w2 ⟨rfl, q2⟩
 replace x1a := x1a.b q2
 have bw2 := bw1.trans (q2.mono bw1.size)
 have lw2 := q2.size
 clear q2 bw1
 go_wp2_with fail
 (with_reducible refine (i_parse_ok6 _ (F) (by omega) H1.out).mono ?_); rintro e w3 ⟨b3, A3, n3, c3, rfl, h3, q3⟩
 replace x1a := x1a.b q3
 have bw3 := bw2.trans (q3.mono bw2.size)
 have lw3 := q3.size
 clear q3 bw2
 go_wp2_with fail
 (with_reducible refine (i_parse_bad _ (B) (by omega) H2.out).mono ?_); rintro e w4 ⟨b4, A4, n4, c4, rfl, h4, hb4⟩
 have q4 := hb4.q1
 replace h3 := h3.belw q4
 replace x1a := x1a.b q4
 have x4a : Blk w4 w3.heap.size 77 #[.bool b3, .slice A3 n3 c3] := (blkAt _ _ _ (by simp)).below hb4 (by simp)
 have bw4 := bw3.trans (q4.mono bw3.size)
 have lw4 := hb4.l1
 clear q4 bw3
 have cx1a := x1a.c3
 have fx1a := x1a.f3
 have lx1a := lts0 x1a.lt
 go_wp2_with fail
 refine bodyPost_ret (v := .tuple #[.agg #[.bool false, .slice none 0 0, .slice none 0 0], .iface 57 (.int .i64 2)]) (by simp [results, Tryz.results31, go_sem, *] <;> trivial) rfl ?_
 exact ⟨_, _, _, _, _, _, _, rfl, QV.zero _ _, ((((bw4.sc w.heap.size 0 (by omega) (.bool false)).sc w.heap.size 1 (by omega) (.slice none 0 0)).sc w.heap.size 2 (by omega) (.slice none 0 0)).alloc (by first | omega | (simp <;> omega)) (.cells #[.bool b4, .slice A4 n4 c4] 77))⟩
theorem f_parse_q3 (w : World) (s F B : List UInt8) (hmx : Mx w) (hl : s.length ≤ 65536) (hd : Lib.cut s [46] = (s, [], false)) (hc : Lib.cut s [47] = (F, B, true)) (hF6 : F.length ≤ 65536) (hB6 : B.length ≤ 65536) (h1 : okZ F = true) (h2 : okZ B = true) (h3 : (valZ B).sign ≤ 0) :
  Calls Tryz.prog 31 #[strV s] w (RetFe w (.iface 57 (.int .i64 2)) 0 1) := by
 have hszs := size_v s
 have hlen : ((65536 : Int) < (s.length : Int)) = False := by simp; omega
 have HC := Lib.hid hc
 have HD := Lib.hid hd
 clear hc hd
 have H1 := Lib.hid h1
 clear h1
 have H2 := Lib.hid h2
 clear h2
 obtain ⟨t, ht⟩ : ∃ t, (valZ B).sign = t := ⟨_, rfl⟩
 have et : (t ≤ 0) = True := by simp; rw [← ht]; exact h3
 have HT := Lib.hid ht
 clear h3 ht
 go_enter Tryz.func31, Tryz.ntmps31
 go_wp2_with fail
 (with_reducible refine (cut_v _ (s) 46 (s) ([]) false (hmx.belw ((brefl w).alloc (by first | omega | (simp <;> omega)) (.cells #[.bool false, .slice none 0 0, .slice none 0 0] 24))) (by omega) HD.out).mono ?_); rintro e w1 ⟨rfl, hb1⟩
 have q1 := hb1.q1
 have x1a : Blk w1 w.heap.size 24 #[.bool false, .slice none 0 0, .slice none 0 0] := (blkAt _ _ _ (by simp)).below hb1 (by simp)
 have bw1 := (brefl w).trans (q1.mono (brefl w).size)
 have lw1 := hb1.l1
 clear q1
 go_wp2_with fail
 (with_reducible refine (cut_v _ (s) 47 (F) (B) true (hmx.belw bw1) (by omega) HC.out).mono ?_); rintro e w2 ⟨rfl, q2⟩
 replace x1a := x1a.b q2
 have bw2 := bw1.trans (q2.mono bw1.size)
 have lw2 := q2.size
 clear q2 bw1
 go_wp2_with fail
 (with_reducible refine (i_parse_ok6 _ (F) (by omega) H1.out).mono ?_); rintro e w3 ⟨b3, A3, n3, c3, rfl, h3, q3⟩
 replace x1a := x1a.b q3
 have bw3 := bw2.trans (q3.mono bw2.size)
 have lw3 := q3.size
 clear q3 bw2
 go_wp2_with fail
 (with_reducible refine (i_parse_ok6 _ (B) (by omega) H2.out).mono ?_); rintro e w4 ⟨b4, A4, n4, c4, rfl, h4, hb4⟩
 have q4 := hb4.q1
 replace h3 := h3.belw q4
 replace x1a := x1a.b q4
 have x4a : Blk w4 w3.heap.size 77 #[.bool b3, .slice A3 n3 c3] := (blkAt _ _ _ (by simp)).below hb4 (by simp)
 have bw4 := bw3.trans (q4.mono bw3.size)
 have lw4 := hb4.l1
 clear q4 bw3
 go_wp2_with fail
 (with_reducible refine (i_sign_e _ b4 A4 n4 c4 (valZ B) (65536) ?_ (t) ?_ ?_).mono ?_); (exact (h4.belw ((Below.refl _ _).alloc (Nat.le_refl _) _)).iz); (exact HT.out); (omega); rintro e w5 ⟨rfl, hb5⟩
 have q5 := hb5.q1
 replace h3 := h3.belw q5
 replace h4 := h4.belw q5
 replace x1a := x1a.b q5
 replace x4a := x4a.b q5
 have x5a : Blk w5 w4.heap.size 77 #[.bool b4, .slice A4 n4 c4] := (blkAt _ _ _ (by simp)).below hb5 (by simp)
 have bw5 := bw4.trans (q5.mono bw4.size)
 have lw5 := hb5.l1
 clear q5 bw4
 have cx1a := x1a.c3
 have fx1a := x1a.f3
 have lx1a := lts0 x1a.lt
 go_wp2_with fail
 refine bodyPost_ret (v := .tuple #[.agg #[.bool false, .slice none 0 0, .slice none 0 0], .iface 57 (.int .i64 2)]) (by simp [results, Tryz.results31, go_sem, *] <;> trivial) rfl ?_
 exact ⟨_, _, _, _, _, _, _, rfl, QV.zero _ _, (((bw5.sc w.heap.size 0 (by omega) (.bool false)).sc w.heap.size 1 (by omega) (.slice none 0 0)).sc w.heap.size 2 (by omega) (.slice none 0 0))⟩
theorem f_parse_q4 (w : World) (s F B : List UInt8) (hmx : Mx w) (hl : s.length ≤ 65536) (hd : Lib.cut s [46] = (s, [], false)) (hc : Lib.cut s [47] = (F, B, true)) (hF6 : F.length ≤ 65536) (hB6 : B.length ≤ 65536) (h1 : okZ F = true) (h2 : okZ B = true) (h3 : (valZ B).sign = 1) (h4 : cmpI (valZ B) 1 = 0) :
    Calls Tryz.prog 31 #[strV s] w (RetFe w (.iface 57 (.int .i64 2)) 0 65536) := by
  have hszs := size_v s
  have hlen : ((65536 : Int) < (s.length : Int)) = False := by simp; omega
  have HC := Lib.hid hc
  have HD := Lib.hid hd
  clear hc hd
  have H1 := Lib.hid h1
  clear h1
  have H2 := Lib.hid h2
  clear h2
  have H3 := Lib.hid h3
  clear h3
  have H4 := Lib.hid h4
  clear h4
  go_enter Tryz.func31, Tryz.ntmps31
  go_wp2_with fail
  (with_reducible refine (cut_v _ (s) 46 (s) ([]) false (hmx.belw ((brefl w).alloc (by first | omega | (simp <;> omega)) (.cells #[.bool false, .slice none 0 0, .slice none 0 0] 24))) (by omega) HD.out).mono ?_); rintro e w1 ⟨rfl, hb1⟩
  have q1 := hb1.q1
  have x1a : Blk w1 w.heap.size 24 #[.bool false, .slice none 0 0, .slice none 0 0] := (blkAt _ _ _ (by simp)).below hb1 (by simp)
  have bw1 := (brefl w).trans (q1.mono (brefl w).size)
  have lw1 := hb1.l1
  clear q1
  go_wp2_with fail
  (with_reducible refine (cut_v _ (s) 47 (F) (B) true (hmx.belw bw1) (by omega) HC.out).mono ?_); rintro e w2 ⟨rfl, q2⟩
  replace x1a := x1a.b q2
  have bw2 := bw1.trans (q2.mono bw1.size)
  have lw2 := q2.size
  clear q2 bw1
  go_wp2_with fail
  (with_reducible refine (i_parse_ok6 _ (F) (by omega) H1.out).mono ?_); rintro e w3 ⟨b3, A3, n3, c3, rfl, h3, q3⟩
  replace x1a := x1a.b q3
  have bw3 := bw2.trans (q3.mono bw2.size)
  have lw3 := q3.size
  clear q3 bw2
  go_wp2_with fail
  (with_reducible refine (i_parse_ok6 _ (B) (by omega) H2.out).mono ?_); rintro e w4 ⟨b4, A4, n4, c4, rfl, h4, hb4⟩
  have q4 := hb4.q1
  replace h3 := h3.belw q4
  replace x1a := x1a.b q4
  have x4a : Blk w4 w3.heap.size 77 #[.bool b3, .slice A3 n3 c3] := (blkAt _ _ _ (by simp)).below hb4 (by simp)
  have bw4 := bw3.trans (q4.mono bw3.size)
  have lw4 := hb4.l1
  clear q4 bw3
  go_wp2_with fail
  (with_reducible refine (i_sign_e _ b4 A4 n4 c4 (valZ B) (65536) ?_ (1) ?_ ?_).mono ?_); (exact (h4.belw ((Below.refl _ _).alloc (Nat.le_refl _) _)).iz); (exact H3.out); (omega); rintro e w5 ⟨rfl, hb5⟩
  have q5 := hb5.q1
  replace h3 := h3.belw q5
  replace h4 := h4.belw q5
  replace x1a := x1a.b q5
  replace x4a := x4a.b q5
  have x5a : Blk w5 w4.heap.size 77 #[.bool b4, .slice A4 n4 c4] := (blkAt _ _ _ (by simp)).below hb5 (by simp)
  have bw5 := bw4.trans (q5.mono bw4.size)
  have lw5 := hb5.l1
  clear q5 bw4
  have cx5a := x5a.c2
  have lx5a := lts0 x5a.lt
  go_wp2_with fail
  refine wp_region_lin (B := w.heap.size) (fr := fun xf => ⟨List.toArray (strV s :: undef :: .pointer (some ⟨w.heap.size, 0, none⟩) :: .nilIface :: strV s :: strV [] :: .bool false :: strV F :: strV B :: .bool true :: .pointer (some ⟨w3.heap.size, 0, none⟩) :: .nilIface :: .pointer (some ⟨w4.heap.size, 0, none⟩) :: .nilIface :: strV s :: .int .i64 (s.length : Nat) :: .bool false :: undef :: undef :: .tuple #[strV s, strV [], .bool false] :: strV s :: .tuple #[strV s, strV [], .bool false] :: strV s :: strV [] :: .bool false :: .bool false :: undef :: undef :: undef :: undef :: undef :: undef :: undef :: undef :: undef :: undef :: .tuple #[strV F, strV B, .bool true] :: strV s :: .tuple #[strV F, strV B, .bool true] :: strV F :: strV B :: .bool true :: .bool true :: .bool false :: .tuple #[.agg #[.bool b3, .slice A3 n3 c3], .nilIface] :: strV F :: .tuple #[.agg #[.bool b3, .slice A3 n3 c3], .nilIface] :: .agg #[.bool b3, .slice A3 n3 c3] :: .nilIface :: .tuple #[.agg #[.bool b4, .slice A4 n4 c4], .nilIface] :: strV B :: .tuple #[.agg #[.bool b4, .slice A4 n4 c4], .nilIface] :: .agg #[.bool b4, .slice A4 n4 c4] :: .nilIface :: .nilIface :: .bool false :: .bool false :: .nilIface :: .bool false :: .bool false :: .bool false :: .agg #[.bool b4, .slice A4 n4 c4] :: .int .i64 1 :: .bool false :: .bool false :: undef :: undef :: xf 0 :: xf 1 :: xf 2 :: xf 3 :: xf 4 :: xf 5 :: xf 6 :: xf 7 :: xf 8 :: xf 9 :: xf 10 :: xf 11 :: xf 12 :: xf 13 :: xf 14 :: undef :: undef :: undef :: undef :: undef :: []), []⟩) (R := fun ri => List.getD ((PEq (.bool true)) :: (PEq (.bool true)) :: (PEq (.agg #[.bool b4, .slice A4 n4 c4])) :: (VI (1) (1)) :: (PEq (.int .i64 (0))) :: (PEq (.bool true)) :: (PEq (.bool true)) :: (PEq undef) :: (PEq undef) :: (PEq undef) :: (PEq undef) :: (PEq undef) :: (PEq undef) :: (PEq (.bool true)) :: (PEq (.bool true)) :: []) ri (fun _ _ => True)) (es := []) (ow := [⟨w.heap.size, 15, 0, 24, #[.bool false, .slice none 0 0, .slice none 0 0], CAny⟩, ⟨w3.heap.size, 15, 0, 77, #[.bool b3, .slice A3 n3 c3], CAny⟩, ⟨w4.heap.size, 15, 0, 77, #[.bool b4, .slice A4 n4 c4], CAny⟩]) (x0 := (fun _ => undef)) (by kernel_rfl)
    (each_of ⟨fun _ _ => rfl, fun _ _ => rfl, fun _ _ => rfl, fun _ _ => rfl, fun _ _ => rfl, fun _ _ => rfl, fun _ _ => rfl, fun _ _ => rfl, fun _ _ => rfl, fun _ _ => rfl, fun _ _ => rfl, fun _ _ => rfl, fun _ _ => rfl, fun _ _ => rfl, fun _ _ => rfl, trivial⟩) (each_of (acyc_from _ 0 (by kernel_rfl))) (AllStab.get _ ⟨stEq _, stEq _, stEq _, stI _ _, stEq _, stEq _, stEq _, stEq _, stEq _, stEq _, stEq _, stEq _, stEq _, stEq _, stEq _, trivial⟩)
    (fun _ h => nomatch h) (fmc ⟨scAny, fmc ⟨scAny, fmc ⟨scAny, fun _ h => nomatch h⟩⟩⟩) (fun _ h => nomatch h) bw5.size
    (fmc ⟨⟨x1a, by show w.heap.size ≤ w.heap.size; omega⟩, fmc ⟨⟨x4a, by show w.heap.size ≤ w3.heap.size; omega⟩, fmc ⟨⟨x5a, by show w.heap.size ≤ w4.heap.size; omega⟩, fun _ h => nomatch h⟩⟩⟩) (ownDist (by simp <;> omega))
    (each_of ⟨?_, ?_, ?_, ?_, ?_, ?_, ?_, ?_, ?_, ?_, ?_, ?_, ?_, ?_, ?_, trivial⟩) ?_
  · exact .inl ⟨by simp, by simp, fun xf wq hk hbl hd K hK => by
      (try dsimp only)
      go_simp
      exact hK.out (.bool true) _ rfl (brefl _)⟩
  · exact .inl ⟨by simp, by simp, fun xf wq hk hbl hd K hK => by
      have dq0 : xf 0 = .bool true := hd ⟨0, .data⟩ (by simp) rfl
      (try dsimp only); (try simp only [dq0])
      go_simp
      have hz := hK.out (.bool true) _ rfl (brefl _)
      simp only [dq0] at hz
      exact hz⟩
  · exact .inl ⟨by simp, by simp, fun xf wq hk hbl hd K hK => by
      have dq1 : xf 1 = .bool true := hd ⟨1, .guard⟩ (by simp) rfl
      have y : Blk wq w4.heap.size 77 #[.bool b4, .slice A4 n4 c4] := hbl _ (List.Mem.tail _ (List.Mem.tail _ (List.Mem.head _))) (by simp [Region.binds])
      have hcl0 := y.c2
      (try dsimp only); (try simp only [dq1])
      go_simp
      have hz := hK.out (.agg #[.bool b4, .slice A4 n4 c4]) _ rfl (brefl _)
      simp only [dq1] at hz
      exact hz⟩
  · exact .inl ⟨by simp, by simp, fun xf wq hk hbl hd K hK => by
      have dq1 : xf 1 = .bool true := hd ⟨1, .guard⟩ (by simp) rfl
      (try dsimp only); (try simp only [dq1])
      go_simp
      go_at_call 54
      (with_reducible refine (f_one _).mono ?_); rintro e wr ⟨b7, A7, n7, c7, rfl, h7, hbr⟩
      have hz := hK.out _ _ ⟨b7, A7, n7, c7, rfl, h7⟩ hbr
      simp only [dq1] at hz
      exact hz⟩
  · exact .inl ⟨by simp, by simp, fun xf wq hk hbl hd K hK => by
      have dq2 : xf 2 = .agg #[.bool b4, .slice A4 n4 c4] := hd ⟨2, .data⟩ (by simp) rfl
      obtain ⟨b7, A7, n7, c7, dq3, h7⟩ : VI (1) (1) (xf 3) wq := hd ⟨3, .data⟩ (by simp) rfl
      have dq1 : xf 1 = .bool true := hd ⟨1, .guard⟩ (by simp) rfl
      (try dsimp only); (try simp only [dq2, dq3, dq1])
      go_simp
      go_at_call 49
      (with_reducible refine (i_cmp_v2 _ b4 A4 n4 c4 (valZ B) (65536) ?_ b7 A7 n7 c7 (1) (1) ?_ (0) H4.out ?_).mono ?_); (exact (h4.keep hk).iz); (exact h7.iz); (first | omega | assumption); rintro e wr ⟨rfl, hbr⟩
      have hz := hK.out (.int .i64 (0)) _ rfl hbr
      simp only [dq2, dq3, dq1] at hz
      exact hz⟩
  · exact .inl ⟨by simp, by simp, fun xf wq hk hbl hd K hK => by
      have dq4 : xf 4 = .int .i64 (0) := hd ⟨4, .data⟩ (by simp) rfl
      have dq1 : xf 1 = .bool true := hd ⟨1, .guard⟩ (by simp) rfl
      (try dsimp only); (try simp only [dq4, dq1])
      go_simp
      have hz := hK.out (.bool true) _ rfl (brefl _)
      simp only [dq4, dq1] at hz
      exact hz⟩
  · exact .inl ⟨by simp, by simp, fun xf wq hk hbl hd K hK => by
      have dq5 : xf 5 = .bool true := hd ⟨5, .data⟩ (by simp) rfl
      have dq1 : xf 1 = .bool true := hd ⟨1, .guard⟩ (by simp) rfl
      (try dsimp only); (try simp only [dq5, dq1])
      go_simp
      have hz := hK.out (.bool true) _ rfl (brefl _)
      simp only [dq5, dq1] at hz
      exact hz⟩
  · exact .inl ⟨by simp, by simp, fun xf wq hk hbl hd K hK => by
      have dq6 : xf 6 = .bool true := hd ⟨6, .guard⟩ (by simp) rfl
      (try dsimp only); (try simp only [dq6])
      go_simp
      have hz := hK.out undef _ rfl (brefl _)
      simp only [dq6] at hz
      exact hz⟩
  · exact .inl ⟨by simp, by simp, fun xf wq hk hbl hd K hK => by
      have dq6 : xf 6 = .bool true := hd ⟨6, .guard⟩ (by simp) rfl
      (try dsimp only); (try simp only [dq6])
      go_simp
      have hz := hK.out undef _ rfl (brefl _)
      simp only [dq6] at hz
      exact hz⟩
  · exact .inl ⟨by simp, by simp, fun xf wq hk hbl hd K hK => by
      have dq6 : xf 6 = .bool true := hd ⟨6, .guard⟩ (by simp) rfl
      (try dsimp only); (try simp only [dq6])
      go_simp
      have hz := hK.out undef _ rfl (brefl _)
      simp only [dq6] at hz
      exact hz⟩
  · exact .inl ⟨by simp, by simp, fun xf wq hk hbl hd K hK => by
      have dq6 : xf 6 = .bool true := hd ⟨6, .guard⟩ (by simp) rfl
      (try dsimp only); (try simp only [dq6])
      go_simp
      have hz := hK.out undef _ rfl (brefl _)
      simp only [dq6] at hz
      exact hz⟩
  · exact .inl ⟨by simp, by simp, fun xf wq hk hbl hd K hK => by
      have dq6 : xf 6 = .bool true := hd ⟨6, .guard⟩ (by simp) rfl
      (try dsimp only); (try simp only [dq6])
      go_simp
      have hz := hK.out undef _ rfl (brefl _)
      simp only [dq6] at hz
      exact hz⟩
  · exact .inl ⟨by simp, by simp, fun xf wq hk hbl hd K hK => by
      have dq6 : xf 6 = .bool true := hd ⟨6, .guard⟩ (by simp) rfl
      (try dsimp only); (try simp only [dq6])
      go_simp
      have hz := hK.out undef _ rfl (brefl _)
      simp only [dq6] at hz
      exact hz⟩
  · exact .inl ⟨by simp, by simp, fun xf wq hk hbl hd K hK => by
      have dq6 : xf 6 = .bool true := hd ⟨6, .data⟩ (by simp) rfl
      have dq12 : xf 12 = undef := hd ⟨12, .data⟩ (by simp) rfl
      have dq1 : xf 1 = .bool true := hd ⟨1, .guard⟩ (by simp) rfl
      (try dsimp only); (try simp only [dq6, dq12, dq1])
      go_simp
      have hz := hK.out (.bool true) _ rfl (brefl _)
      simp only [dq6, dq12, dq1] at hz
      exact hz⟩
  · exact .inl ⟨by simp, by simp, fun xf wq hk hbl hd K hK => by
      have dq1 : xf 1 = .bool true := hd ⟨1, .data⟩ (by simp) rfl
      have dq13 : xf 13 = .bool true := hd ⟨13, .data⟩ (by simp) rfl
      (try dsimp only); (try simp only [dq1, dq13])
      go_simp
      have hz := hK.out (.bool true) _ rfl (brefl _)
      simp only [dq1, dq13] at hz
      exact hz⟩
  clear cx5a lx5a
  intro y6 w6 kq6 hbl6 lw6 how hrr hfl hds
  replace h3 := h3.keep kq6
  replace h4 := h4.keep kq6
  obtain ⟨_, z6_0, ez, _⟩ := how _ (List.Mem.head _)
  obtain rfl := ez (by simp)
  dsimp only at z6_0
  obtain ⟨_, z6_1, ez, _⟩ := how _ (List.Mem.tail _ (List.Mem.head _))
  obtain rfl := ez (by simp)
  dsimp only at z6_1
  obtain ⟨_, z6_2, ez, _⟩ := how _ (List.Mem.tail _ (List.Mem.tail _ (List.Mem.head _)))
  obtain rfl := ez (by simp)
  dsimp only at z6_2
  have ea14 : y6 14 = .bool true := hrr 14 (by simp)
  (try dsimp only)
  simp only [ea14]
  clear hrr hfl how hds ea14
  clear x1a x4a x5a
  have bw6 := bw5.trans hbl6
  clear bw5
  have cz6_0_0 : w6.cell? ⟨w.heap.size, 0, none⟩ = some (.bool false) := z6_0.cell 0
  have fz6_0_0 : w6.frozen? ⟨w.heap.size, 0, none⟩ = false := z6_0.frozen 0
  have cz6_0_1 : w6.cell? ⟨w.heap.size, 1, none⟩ = some (.slice none 0 0) := z6_0.cell 1
  have fz6_0_1 : w6.frozen? ⟨w.heap.size, 1, none⟩ = false := z6_0.frozen 1
  have cz6_0_2 : w6.cell? ⟨w.heap.size, 2, none⟩ = some (.slice none 0 0) := z6_0.cell 2
  have fz6_0_2 : w6.frozen? ⟨w.heap.size, 2, none⟩ = false := z6_0.frozen 2
  have lz6_0 := lts0 z6_0.lt
  go_wp2_with fail
  refine bodyPost_ret (v := .tuple #[.agg #[.bool false, .slice none 0 0, .slice none 0 0], .iface 57 (.int .i64 2)]) (by simp [results, Tryz.results31, go_sem, *] <;> trivial) rfl ?_
  exact ⟨_, _, _, _, _, _, _, rfl, QV.zero _ _, (((bw6.sc w.heap.size 0 (by omega) (.bool false)).sc w.heap.size 1 (by omega) (.slice none 0 0)).sc w.heap.size 2 (by omega) (.slice none 0 0))⟩
theorem f_parse_q5 (w : World) (s F B : List UInt8) (hmx : Mx w) (hl : s.length ≤ 65536) (hd : Lib.cut s [46] = (s, [], false)) (hc : Lib.cut s [47] = (F, B, true)) (hF6 : F.length ≤ 65536) (hB6 : B.length ≤ 65536) (h1 : okZ F = true) (h2 : okZ B = true) (h3 : (valZ B).sign = 1) (h4 : cmpI (valZ B) 1 = 1) (h5 : cmpI ((Nat.gcd (valZ F).natAbs (valZ B).natAbs : Nat) : Int) 1 = 1) :
    Calls Tryz.prog 31 #[strV s] w (RetFe w (.iface 57 (.int .i64 2)) 0 65536) := by
  have hszs := size_v s
  have hlen : ((65536 : Int) < (s.length : Int)) = False := by simp; omega
  have HC := Lib.hid hc
  have HD := Lib.hid hd
  clear hc hd
  have H1 := Lib.hid h1
  clear h1
  have H2 := Lib.hid h2
  clear h2
  have H3 := Lib.hid h3
  clear h3
  have H4 := Lib.hid h4
  clear h4
  have H5 := Lib.hid h5
  clear h5
  go_enter Tryz.func31, Tryz.ntmps31
  go_wp2_with fail
  (with_reducible refine (cut_v _ (s) 46 (s) ([]) false (hmx.belw ((brefl w).alloc (by first | omega | (simp <;> omega)) (.cells #[.bool false, .slice none 0 0, .slice none 0 0] 24))) (by omega) HD.out).mono ?_); rintro e w1 ⟨rfl, hb1⟩
  have q1 := hb1.q1
  have x1a : Blk w1 w.heap.size 24 #[.bool false, .slice none 0 0, .slice none 0 0] := (blkAt _ _ _ (by simp)).below hb1 (by simp)
  have bw1 := (brefl w).trans (q1.mono (brefl w).size)
  have lw1 := hb1.l1
  clear q1
  go_wp2_with fail
  (with_reducible refine (cut_v _ (s) 47 (F) (B) true (hmx.belw bw1) (by omega) HC.out).mono ?_); rintro e w2 ⟨rfl, q2⟩
  replace x1a := x1a.b q2
  have bw2 := bw1.trans (q2.mono bw1.size)
  have lw2 := q2.size
  clear q2 bw1
  go_wp2_with fail
  (with_reducible refine (i_parse_ok6 _ (F) (by omega) H1.out).mono ?_); rintro e w3 ⟨b3, A3, n3, c3, rfl, h3, q3⟩
  replace x1a := x1a.b q3
  have bw3 := bw2.trans (q3.mono bw2.size)
  have lw3 := q3.size
  clear q3 bw2
  go_wp2_with fail
  (with_reducible refine (i_parse_ok6 _ (B) (by omega) H2.out).mono ?_); rintro e w4 ⟨b4, A4, n4, c4, rfl, h4, hb4⟩
  have q4 := hb4.q1
  replace h3 := h3.belw q4
  replace x1a := x1a.b q4
  have x4a : Blk w4 w3.heap.size 77 #[.bool b3, .slice A3 n3 c3] := (blkAt _ _ _ (by simp)).below hb4 (by simp)
  have bw4 := bw3.trans (q4.mono bw3.size)
  have lw4 := hb4.l1
  clear q4 bw3
  go_wp2_with fail
  (with_reducible refine (i_sign_e _ b4 A4 n4 c4 (valZ B) (65536) ?_ (1) ?_ ?_).mono ?_); (exact (h4.belw ((Below.refl _ _).alloc (Nat.le_refl _) _)).iz); (exact H3.out); (omega); rintro e w5 ⟨rfl, hb5⟩
  have q5 := hb5.q1
  replace h3 := h3.belw q5
  replace h4 := h4.belw q5
  replace x1a := x1a.b q5
  replace x4a := x4a.b q5
  have x5a : Blk w5 w4.heap.size 77 #[.bool b4, .slice A4 n4 c4] := (blkAt _ _ _ (by simp)).below hb5 (by simp)
  have bw5 := bw4.trans (q5.mono bw4.size)
  have lw5 := hb5.l1
  clear q5 bw4
  have cx4a := x4a.c2
  have lx4a := lts0 x4a.lt
  have cx5a := x5a.c2
  have lx5a := lts0 x5a.lt
  go_wp2_with fail
  refine wp_region_lin (B := w.heap.size) (fr := fun xf => ⟨List.toArray (strV s :: undef :: .pointer (some ⟨w.heap.size, 0, none⟩) :: .nilIface :: strV s :: strV [] :: .bool false :: strV F :: strV B :: .bool true :: .pointer (some ⟨w3.heap.size, 0, none⟩) :: .nilIface :: .pointer (some ⟨w4.heap.size, 0, none⟩) :: .nilIface :: strV s :: .int .i64 (s.length : Nat) :: .bool false :: undef :: undef :: .tuple #[strV s, strV [], .bool false] :: strV s :: .tuple #[strV s, strV [], .bool false] :: strV s :: strV [] :: .bool false :: .bool false :: undef :: undef :: undef :: undef :: undef :: undef :: undef :: undef :: undef :: undef :: .tuple #[strV F, strV B, .bool true] :: strV s :: .tuple #[strV F, strV B, .bool true] :: strV F :: strV B :: .bool true :: .bool true :: .bool false :: .tuple #[.agg #[.bool b3, .slice A3 n3 c3], .nilIface] :: strV F :: .tuple #[.agg #[.bool b3, .slice A3 n3 c3], .nilIface] :: .agg #[.bool b3, .slice A3 n3 c3] :: .nilIface :: .tuple #[.agg #[.bool b4, .slice A4 n4 c4], .nilIface] :: strV B :: .tuple #[.agg #[.bool b4, .slice A4 n4 c4], .nilIface] :: .agg #[.bool b4, .slice A4 n4 c4] :: .nilIface :: .nilIface :: .bool false :: .bool false :: .nilIface :: .bool false :: .bool false :: .bool false :: .agg #[.bool b4, .slice A4 n4 c4] :: .int .i64 1 :: .bool false :: .bool false :: undef :: undef :: xf 0 :: xf 1 :: xf 2 :: xf 3 :: xf 4 :: xf 5 :: xf 6 :: xf 7 :: xf 8 :: xf 9 :: xf 10 :: xf 11 :: xf 12 :: xf 13 :: xf 14 :: undef :: undef :: undef :: undef :: undef :: []), []⟩) (R := fun ri => List.getD ((PEq (.bool true)) :: (PEq (.bool true)) :: (PEq (.agg #[.bool b4, .slice A4 n4 c4])) :: (VI (1) (1)) :: (PEq (.int .i64 (1))) :: (PEq (.bool false)) :: (PEq (.bool false)) :: (PEq (.agg #[.bool b3, .slice A3 n3 c3])) :: (PEq (.agg #[.bool b4, .slice A4 n4 c4])) :: (VI ((Nat.gcd ((valZ F) : Int).natAbs ((valZ B) : Int).natAbs : Nat)) ((65536) + (65536))) :: (VI (1) (1)) :: (PEq (.int .i64 (1))) :: (PEq (.bool true)) :: (PEq (.bool true)) :: (PEq (.bool true)) :: []) ri (fun _ _ => True)) (es := []) (ow := [⟨w.heap.size, 15, 0, 24, #[.bool false, .slice none 0 0, .slice none 0 0], CAny⟩, ⟨w3.heap.size, 15, 0, 77, #[.bool b3, .slice A3 n3 c3], CAny⟩, ⟨w4.heap.size, 15, 0, 77, #[.bool b4, .slice A4 n4 c4], CAny⟩]) (x0 := (fun _ => undef)) (by kernel_rfl)
    (each_of ⟨fun _ _ => rfl, fun _ _ => rfl, fun _ _ => rfl, fun _ _ => rfl, fun _ _ => rfl, fun _ _ => rfl, fun _ _ => rfl, fun _ _ => rfl, fun _ _ => rfl, fun _ _ => rfl, fun _ _ => rfl, fun _ _ => rfl, fun _ _ => rfl, fun _ _ => rfl, fun _ _ => rfl, trivial⟩) (each_of (acyc_from _ 0 (by kernel_rfl))) (AllStab.get _ ⟨stEq _, stEq _, stEq _, stI _ _, stEq _, stEq _, stEq _, stEq _, stEq _, stI _ _, stI _ _, stEq _, stEq _, stEq _, stEq _, trivial⟩)
    (fun _ h => nomatch h) (fmc ⟨scAny, fmc ⟨scAny, fmc ⟨scAny, fun _ h => nomatch h⟩⟩⟩) (fun _ h => nomatch h) bw5.size
    (fmc ⟨⟨x1a, by show w.heap.size ≤ w.heap.size; omega⟩, fmc ⟨⟨x4a, by show w.heap.size ≤ w3.heap.size; omega⟩, fmc ⟨⟨x5a, by show w.heap.size ≤ w4.heap.size; omega⟩, fun _ h => nomatch h⟩⟩⟩) (ownDist (by simp <;> omega))
    (each_of ⟨?_, ?_, ?_, ?_, ?_, ?_, ?_, ?_, ?_, ?_, ?_, ?_, ?_, ?_, ?_, trivial⟩) ?_
  · exact .inl ⟨by simp, by simp, fun xf wq hk hbl hd K hK => by
      (try dsimp only)
      go_simp
      exact hK.out (.bool true) _ rfl (brefl _)⟩
  · exact .inl ⟨by simp, by simp, fun xf wq hk hbl hd K hK => by
      have dq0 : xf 0 = .bool true := hd ⟨0, .data⟩ (by simp) rfl
      (try dsimp only); (try simp only [dq0])
      go_simp
      have hz := hK.out (.bool true) _ rfl (brefl _)
      simp only [dq0] at hz
      exact hz⟩
  · exact .inl ⟨by simp, by simp, fun xf wq hk hbl hd K hK => by
      have dq1 : xf 1 = .bool true := hd ⟨1, .guard⟩ (by simp) rfl
      have y : Blk wq w4.heap.size 77 #[.bool b4, .slice A4 n4 c4] := hbl _ (List.Mem.tail _ (List.Mem.tail _ (List.Mem.head _))) (by simp [Region.binds])
      obtain ⟨hcl0, hcl1⟩ := y.c2
      (try dsimp only); (try simp only [dq1])
      go_simp
      have hz := hK.out (.agg #[.bool b4, .slice A4 n4 c4]) _ rfl (brefl _)
      simp only [dq1] at hz
      exact hz⟩
  · exact .inl ⟨by simp, by simp, fun xf wq hk hbl hd K hK => by
      have dq1 : xf 1 = .bool true := hd ⟨1, .guard⟩ (by simp) rfl
      (try dsimp only); (try simp only [dq1])
      go_simp
      go_at_call 54
      (with_reducible refine (f_one _).mono ?_); rintro e wr ⟨b7, A7, n7, c7, rfl, h7, hbr⟩
      have hz := hK.out _ _ ⟨b7, A7, n7, c7, rfl, h7⟩ hbr
      simp only [dq1] at hz
      exact hz⟩
  · exact .inl ⟨by simp, by simp, fun xf wq hk hbl hd K hK => by
      have dq2 : xf 2 = .agg #[.bool b4, .slice A4 n4 c4] := hd ⟨2, .data⟩ (by simp) rfl
      obtain ⟨b7, A7, n7, c7, dq3, h7⟩ : VI (1) (1) (xf 3) wq := hd ⟨3, .data⟩ (by simp) rfl
      have dq1 : xf 1 = .bool true := hd ⟨1, .guard⟩ (by simp) rfl
      (try dsimp only); (try simp only [dq2, dq3, dq1])
      go_simp
      go_at_call 49
      (with_reducible refine (i_cmp_v2 _ b4 A4 n4 c4 (valZ B) (65536) ?_ b7 A7 n7 c7 (1) (1) ?_ (1) H4.out ?_).mono ?_); (exact (h4.keep hk).iz); (exact h7.iz); (first | omega | assumption); rintro e wr ⟨rfl, hbr⟩
      have hz := hK.out (.int .i64 (1)) _ rfl hbr
      simp only [dq2, dq3, dq1] at hz
      exact hz⟩
  · exact .inl ⟨by simp, by simp, fun xf wq hk hbl hd K hK => by
      have dq4 : xf 4 = .int .i64 (1) := hd ⟨4, .data⟩ (by simp) rfl
      have dq1 : xf 1 = .bool true := hd ⟨1, .guard⟩ (by simp) rfl
      (try dsimp only); (try simp only [dq4, dq1])
      go_simp
      have hz := hK.out (.bool false) _ rfl (brefl _)
      simp only [dq4, dq1] at hz
      exact hz⟩
  · exact .inl ⟨by simp, by simp, fun xf wq hk hbl hd K hK => by
      have dq5 : xf 5 = .bool false := hd ⟨5, .data⟩ (by simp) rfl
      have dq1 : xf 1 = .bool true := hd ⟨1, .guard⟩ (by simp) rfl
      (try dsimp only); (try simp only [dq5, dq1])
      go_simp
      have hz := hK.out (.bool false) _ rfl (brefl _)
      simp only [dq5, dq1] at hz
      exact hz⟩
  · exact .inl ⟨by simp, by simp, fun xf wq hk hbl hd K hK => by
      have dq6 : xf 6 = .bool false := hd ⟨6, .guard⟩ (by simp) rfl
      have y : Blk wq w3.heap.size 77 #[.bool b3, .slice A3 n3 c3] := hbl _ (List.Mem.tail _ (List.Mem.head _)) (by simp [Region.binds])
      obtain ⟨hcl0, hcl1⟩ := y.c2
      (try dsimp only); (try simp only [dq6])
      go_simp
      have hz := hK.out (.agg #[.bool b3, .slice A3 n3 c3]) _ rfl (brefl _)
      simp only [dq6] at hz
      exact hz⟩
  · exact .inl ⟨by simp, by simp, fun xf wq hk hbl hd K hK => by
      have dq6 : xf 6 = .bool false := hd ⟨6, .guard⟩ (by simp) rfl
      have y : Blk wq w4.heap.size 77 #[.bool b4, .slice A4 n4 c4] := hbl _ (List.Mem.tail _ (List.Mem.tail _ (List.Mem.head _))) (by simp [Region.binds])
      obtain ⟨hcl0, hcl1⟩ := y.c2
      (try dsimp only); (try simp only [dq6])
      go_simp
      have hz := hK.out (.agg #[.bool b4, .slice A4 n4 c4]) _ rfl (brefl _)
      simp only [dq6] at hz
      exact hz⟩
  · exact .inl ⟨by simp, by simp, fun xf wq hk hbl hd K hK => by
      have dq7 : xf 7 = .agg #[.bool b3, .slice A3 n3 c3] := hd ⟨7, .data⟩ (by simp) rfl
      have dq8 : xf 8 = .agg #[.bool b4, .slice A4 n4 c4] := hd ⟨8, .data⟩ (by simp) rfl
      have dq6 : xf 6 = .bool false := hd ⟨6, .guard⟩ (by simp) rfl
      (try dsimp only); (try simp only [dq7, dq8, dq6])
      go_simp
      go_at_call 61
      (with_reducible refine (i_gcd _ b3 A3 n3 c3 (valZ F) (65536) ?_ b4 A4 n4 c4 (valZ B) (65536) ?_ ?_).mono ?_); (exact (h3.keep hk).iz); (exact (h4.keep hk).iz); (omega); rintro e wr ⟨b9, A9, n9, c9, rfl, h9, hbr⟩
      have hz := hK.out _ _ ⟨b9, A9, n9, c9, rfl, h9⟩ hbr
      simp only [dq7, dq8, dq6] at hz
      exact hz⟩
  · exact .inl ⟨by simp, by simp, fun xf wq hk hbl hd K hK => by
      have dq6 : xf 6 = .bool false := hd ⟨6, .guard⟩ (by simp) rfl
      (try dsimp only); (try simp only [dq6])
      go_simp
      go_at_call 54
      (with_reducible refine (f_one _).mono ?_); rintro e wr ⟨b10, A10, n10, c10, rfl, h10, hbr⟩
      have hz := hK.out _ _ ⟨b10, A10, n10, c10, rfl, h10⟩ hbr
      simp only [dq6] at hz
      exact hz⟩
  · exact .inl ⟨by simp, by simp, fun xf wq hk hbl hd K hK => by
      obtain ⟨b9, A9, n9, c9, dq9, h9⟩ : VI ((Nat.gcd ((valZ F) : Int).natAbs ((valZ B) : Int).natAbs : Nat)) ((65536) + (65536)) (xf 9) wq := hd ⟨9, .data⟩ (by simp) rfl
      obtain ⟨b10, A10, n10, c10, dq10, h10⟩ : VI (1) (1) (xf 10) wq := hd ⟨10, .data⟩ (by simp) rfl
      have dq6 : xf 6 = .bool false := hd ⟨6, .guard⟩ (by simp) rfl
      (try dsimp only); (try simp only [dq9, dq10, dq6])
      go_simp
      go_at_call 49
      (with_reducible refine (i_cmp_v2 _ b9 A9 n9 c9 ((Nat.gcd ((valZ F) : Int).natAbs ((valZ B) : Int).natAbs : Nat)) ((65536) + (65536)) ?_ b10 A10 n10 c10 (1) (1) ?_ (1) H5.out ?_).mono ?_); (exact h9.iz); (exact h10.iz); (first | omega | assumption); rintro e wr ⟨rfl, hbr⟩
      have hz := hK.out (.int .i64 (1)) _ rfl hbr
      simp only [dq9, dq10, dq6] at hz
      exact hz⟩
  · exact .inl ⟨by simp, by simp, fun xf wq hk hbl hd K hK => by
      have dq11 : xf 11 = .int .i64 (1) := hd ⟨11, .data⟩ (by simp) rfl
      have dq6 : xf 6 = .bool false := hd ⟨6, .guard⟩ (by simp) rfl
      (try dsimp only); (try simp only [dq11, dq6])
      go_simp
      have hz := hK.out (.bool true) _ rfl (brefl _)
      simp only [dq11, dq6] at hz
      exact hz⟩
  · exact .inl ⟨by simp, by simp, fun xf wq hk hbl hd K hK => by
      have dq6 : xf 6 = .bool false := hd ⟨6, .data⟩ (by simp) rfl
      have dq12 : xf 12 = .bool true := hd ⟨12, .data⟩ (by simp) rfl
      have dq1 : xf 1 = .bool true := hd ⟨1, .guard⟩ (by simp) rfl
      (try dsimp only); (try simp only [dq6, dq12, dq1])
      go_simp
      have hz := hK.out (.bool true) _ rfl (brefl _)
      simp only [dq6, dq12, dq1] at hz
      exact hz⟩
  · exact .inl ⟨by simp, by simp, fun xf wq hk hbl hd K hK => by
      have dq1 : xf 1 = .bool true := hd ⟨1, .data⟩ (by simp) rfl
      have dq13 : xf 13 = .bool true := hd ⟨13, .data⟩ (by simp) rfl
      (try dsimp only); (try simp only [dq1, dq13])
      go_simp
      have hz := hK.out (.bool true) _ rfl (brefl _)
      simp only [dq1, dq13] at hz
      exact hz⟩
  clear cx4a lx4a cx5a lx5a
  intro y6 w6 kq6 hbl6 lw6 how hrr hfl hds
  replace h3 := h3.keep kq6
  replace h4 := h4.keep kq6
  obtain ⟨_, z6_0, ez, _⟩ := how _ (List.Mem.head _)
  obtain rfl := ez (by simp)
  dsimp only at z6_0
  obtain ⟨_, z6_1, ez, _⟩ := how _ (List.Mem.tail _ (List.Mem.head _))
  obtain rfl := ez (by simp)
  dsimp only at z6_1
  obtain ⟨_, z6_2, ez, _⟩ := how _ (List.Mem.tail _ (List.Mem.tail _ (List.Mem.head _)))
  obtain rfl := ez (by simp)
  dsimp only at z6_2
  have ea14 : y6 14 = .bool true := hrr 14 (by simp)
  (try dsimp only)
  simp only [ea14]
  clear hrr hfl how hds ea14
  clear x1a x4a x5a
  have bw6 := bw5.trans hbl6
  clear bw5
  have cz6_0_0 : w6.cell? ⟨w.heap.size, 0, none⟩ = some (.bool false) := z6_0.cell 0
  have fz6_0_0 : w6.frozen? ⟨w.heap.size, 0, none⟩ = false := z6_0.frozen 0
  have cz6_0_1 : w6.cell? ⟨w.heap.size, 1, none⟩ = some (.slice none 0 0) := z6_0.cell 1
  have fz6_0_1 : w6.frozen? ⟨w.heap.size, 1, none⟩ = false := z6_0.frozen 1
  have cz6_0_2 : w6.cell? ⟨w.heap.size, 2, none⟩ = some (.slice none 0 0) := z6_0.cell 2
  have fz6_0_2 : w6.frozen? ⟨w.heap.size, 2, none⟩ = false := z6_0.frozen 2
  have lz6_0 := lts0 z6_0.lt
  go_wp2_with fail
  refine bodyPost_ret (v := .tuple #[.agg #[.bool false, .slice none 0 0, .slice none 0 0], .iface 57 (.int .i64 2)]) (by simp [results, Tryz.results31, go_sem, *] <;> trivial) rfl ?_
  exact ⟨_, _, _, _, _, _, _, rfl, QV.zero _ _, (((bw6.sc w.heap.size 0 (by omega) (.bool false)).sc w.heap.size 1 (by omega) (.slice none 0 0)).sc w.heap.size 2 (by omega) (.slice none 0 0))⟩
theorem f_parse_q6 (w : World) (s F B : List UInt8) (hmx : Mx w) (hl : s.length ≤ 65536) (hd : Lib.cut s [46] = (s, [], false)) (hc : Lib.cut s [47] = (F, B, true)) (hF6 : F.length ≤ 65536) (hB6 : B.length ≤ 65536) (h1 : okZ F = true) (h2 : okZ B = true) (h3 : (valZ B).sign = 1) (h4 : cmpI (valZ B) 1 = 1) (h5 : cmpI ((Nat.gcd (valZ F).natAbs (valZ B).natAbs : Nat) : Int) 1 = 0) :
    Calls Tryz.prog 31 #[strV s] w (RetFe w .nilIface (Rat.divInt (valZ F) (valZ B)) 65536) := by
  have HNE := Lib.hid (show valZ B ≠ 0 by intro e; rw [e] at h3; cases h3)
  have HS := Lib.hid (Sz_divInt (valZ_lt2 h1 hF6) (valZ_lt2 h2 hB6) (by decide))
  have hszs := size_v s
  have hlen : ((65536 : Int) < (s.length : Int)) = False := by simp; omega
  have HC := Lib.hid hc
  have HD := Lib.hid hd
  clear hc hd
  have H1 := Lib.hid h1
  clear h1
  have H2 := Lib.hid h2
  clear h2
  have H3 := Lib.hid h3
  clear h3
  have H4 := Lib.hid h4
  clear h4
  have H5 := Lib.hid h5
  clear h5
  go_enter Tryz.func31, Tryz.ntmps31
  go_wp2_with fail
  (with_reducible refine (cut_v _ (s) 46 (s) ([]) false (hmx.belw ((brefl w).alloc (by first | omega | (simp <;> omega)) (.cells #[.bool false, .slice none 0 0, .slice none 0 0] 24))) (by omega) HD.out).mono ?_); rintro e w1 ⟨rfl, hb1⟩
  have q1 := hb1.q1
  have x1a : Blk w1 w.heap.size 24 #[.bool false, .slice none 0 0, .slice none 0 0] := (blkAt _ _ _ (by simp)).below hb1 (by simp)
  have bw1 := (brefl w).trans (q1.mono (brefl w).size)
  have lw1 := hb1.l1
  clear q1
  go_wp2_with fail
  (with_reducible refine (cut_v _ (s) 47 (F) (B) true (hmx.belw bw1) (by omega) HC.out).mono ?_); rintro e w2 ⟨rfl, q2⟩
  replace x1a := x1a.b q2
  have bw2 := bw1.trans (q2.mono bw1.size)
  have lw2 := q2.size
  clear q2 bw1
  go_wp2_with fail
  (with_reducible refine (i_parse_ok6 _ (F) (by omega) H1.out).mono ?_); rintro e w3 ⟨b3, A3, n3, c3, rfl, h3, q3⟩
  replace x1a := x1a.b q3
  have bw3 := bw2.trans (q3.mono bw2.size)
  have lw3 := q3.size
  clear q3 bw2
  go_wp2_with fail
  (with_reducible refine (i_parse_ok6 _ (B) (by omega) H2.out).mono ?_); rintro e w4 ⟨b4, A4, n4, c4, rfl, h4, hb4⟩
  have q4 := hb4.q1
  replace h3 := h3.belw q4
  replace x1a := x1a.b q4
  have x4a : Blk w4 w3.heap.size 77 #[.bool b3, .slice A3 n3 c3] := (blkAt _ _ _ (by simp)).below hb4 (by simp)
  have bw4 := bw3.trans (q4.mono bw3.size)
  have lw4 := hb4.l1
  clear q4 bw3
  go_wp2_with fail
  (with_reducible refine (i_sign_e _ b4 A4 n4 c4 (valZ B) (65536) ?_ (1) ?_ ?_).mono ?_); (exact (h4.belw ((Below.refl _ _).alloc (Nat.le_refl _) _)).iz); (exact H3.out); (omega); rintro e w5 ⟨rfl, hb5⟩
  have q5 := hb5.q1
  replace h3 := h3.belw q5
  replace h4 := h4.belw q5
  replace x1a := x1a.b q5
  replace x4a := x4a.b q5
  have x5a : Blk w5 w4.heap.size 77 #[.bool b4, .slice A4 n4 c4] := (blkAt _ _ _ (by simp)).below hb5 (by simp)
  have bw5 := bw4.trans (q5.mono bw4.size)
  have lw5 := hb5.l1
  clear q5 bw4
  have cx4a := x4a.c2
  have lx4a := lts0 x4a.lt
  have cx5a := x5a.c2
  have lx5a := lts0 x5a.lt
  go_wp2_with fail
  refine wp_region_lin (B := w.heap.size) (fr := fun xf => ⟨List.toArray (strV s :: undef :: .pointer (some ⟨w.heap.size, 0, none⟩) :: .nilIface :: strV s :: strV [] :: .bool false :: strV F :: strV B :: .bool true :: .pointer (some ⟨w3.heap.size, 0, none⟩) :: .nilIface :: .pointer (some ⟨w4.heap.size, 0, none⟩) :: .nilIface :: strV s :: .int .i64 (s.length : Nat) :: .bool false :: undef :: undef :: .tuple #[strV s, strV [], .bool false] :: strV s :: .tuple #[strV s, strV [], .bool false] :: strV s :: strV [] :: .bool false :: .bool false :: undef :: undef :: undef :: undef :: undef :: undef :: undef :: undef :: undef :: undef :: .tuple #[strV F, strV B, .bool true] :: strV s :: .tuple #[strV F, strV B, .bool true] :: strV F :: strV B :: .bool true :: .bool true :: .bool false :: .tuple #[.agg #[.bool b3, .slice A3 n3 c3], .nilIface] :: strV F :: .tuple #[.agg #[.bool b3, .slice A3 n3 c3], .nilIface] :: .agg #[.bool b3, .slice A3 n3 c3] :: .nilIface :: .tuple #[.agg #[.bool b4, .slice A4 n4 c4], .nilIface] :: strV B :: .tuple #[.agg #[.bool b4, .slice A4 n4 c4], .nilIface] :: .agg #[.bool b4, .slice A4 n4 c4] :: .nilIface :: .nilIface :: .bool false :: .bool false :: .nilIface :: .bool false :: .bool false :: .bool false :: .agg #[.bool b4, .slice A4 n4 c4] :: .int .i64 1 :: .bool false :: .bool false :: undef :: undef :: xf 0 :: xf 1 :: xf 2 :: xf 3 :: xf 4 :: xf 5 :: xf 6 :: xf 7 :: xf 8 :: xf 9 :: xf 10 :: xf 11 :: xf 12 :: xf 13 :: xf 14 :: undef :: undef :: undef :: undef :: undef :: []), []⟩) (R := fun ri => List.getD ((PEq (.bool true)) :: (PEq (.bool true)) :: (PEq (.agg #[.bool b4, .slice A4 n4 c4])) :: (VI (1) (1)) :: (PEq (.int .i64 (1))) :: (PEq (.bool false)) :: (PEq (.bool false)) :: (PEq (.agg #[.bool b3, .slice A3 n3 c3])) :: (PEq (.agg #[.bool b4, .slice A4 n4 c4])) :: (VI ((Nat.gcd ((valZ F) : Int).natAbs ((valZ B) : Int).natAbs : Nat)) ((65536) + (65536))) :: (VI (1) (1)) :: (PEq (.int .i64 (0))) :: (PEq (.bool false)) :: (PEq (.bool false)) :: (PEq (.bool false)) :: []) ri (fun _ _ => True)) (es := []) (ow := [⟨w.heap.size, 15, 0, 24, #[.bool false, .slice none 0 0, .slice none 0 0], CAny⟩, ⟨w3.heap.size, 15, 0, 77, #[.bool b3, .slice A3 n3 c3], CAny⟩, ⟨w4.heap.size, 15, 0, 77, #[.bool b4, .slice A4 n4 c4], CAny⟩]) (x0 := (fun _ => undef)) (by kernel_rfl)
    (each_of ⟨fun _ _ => rfl, fun _ _ => rfl, fun _ _ => rfl, fun _ _ => rfl, fun _ _ => rfl, fun _ _ => rfl, fun _ _ => rfl, fun _ _ => rfl, fun _ _ => rfl, fun _ _ => rfl, fun _ _ => rfl, fun _ _ => rfl, fun _ _ => rfl, fun _ _ => rfl, fun _ _ => rfl, trivial⟩) (each_of (acyc_from _ 0 (by kernel_rfl))) (AllStab.get _ ⟨stEq _, stEq _, stEq _, stI _ _, stEq _, stEq _, stEq _, stEq _, stEq _, stI _ _, stI _ _, stEq _, stEq _, stEq _, stEq _, trivial⟩)
    (fun _ h => nomatch h) (fmc ⟨scAny, fmc ⟨scAny, fmc ⟨scAny, fun _ h => nomatch h⟩⟩⟩) (fun _ h => nomatch h) bw5.size
    (fmc ⟨⟨x1a, by show w.heap.size ≤ w.heap.size; omega⟩, fmc ⟨⟨x4a, by show w.heap.size ≤ w3.heap.size; omega⟩, fmc ⟨⟨x5a, by show w.heap.size ≤ w4.heap.size; omega⟩, fun _ h => nomatch h⟩⟩⟩) (ownDist (by simp <;> omega))
    (each_of ⟨?_, ?_, ?_, ?_, ?_, ?_, ?_, ?_, ?_, ?_, ?_, ?_, ?_, ?_, ?_, trivial⟩) ?_
  · exact .inl ⟨by simp, by simp, fun xf wq hk hbl hd K hK => by
      (try dsimp only)
      go_simp
      exact hK.out (.bool true) _ rfl (brefl _)⟩
  · exact .inl ⟨by simp, by simp, fun xf wq hk hbl hd K hK => by
      have dq0 : xf 0 = .bool true := hd ⟨0, .data⟩ (by simp) rfl
      (try dsimp only); (try simp only [dq0])
      go_simp
      have hz := hK.out (.bool true) _ rfl (brefl _)
      simp only [dq0] at hz
      exact hz⟩
  · exact .inl ⟨by simp, by simp, fun xf wq hk hbl hd K hK => by
      have dq1 : xf 1 = .bool true := hd ⟨1, .guard⟩ (by simp) rfl
      have y : Blk wq w4.heap.size 77 #[.bool b4, .slice A4 n4 c4] := hbl _ (List.Mem.tail _ (List.Mem.tail _ (List.Mem.head _))) (by simp [Region.binds])
      obtain ⟨hcl0, hcl1⟩ := y.c2
      (try dsimp only); (try simp only [dq1])
      go_simp
      have hz := hK.out (.agg #[.bool b4, .slice A4 n4 c4]) _ rfl (brefl _)
      simp only [dq1] at hz
      exact hz⟩
  · exact .inl ⟨by simp, by simp, fun xf wq hk hbl hd K hK => by
      have dq1 : xf 1 = .bool true := hd ⟨1, .guard⟩ (by simp) rfl
      (try dsimp only); (try simp only [dq1])
      go_simp
      go_at_call 54
      (with_reducible refine (f_one _).mono ?_); rintro e wr ⟨b7, A7, n7, c7, rfl, h7, hbr⟩
      have hz := hK.out _ _ ⟨b7, A7, n7, c7, rfl, h7⟩ hbr
      simp only [dq1] at hz
      exact hz⟩
  · exact .inl ⟨by simp, by simp, fun xf wq hk hbl hd K hK => by
      have dq2 : xf 2 = .agg #[.bool b4, .slice A4 n4 c4] := hd ⟨2, .data⟩ (by simp) rfl
      obtain ⟨b7, A7, n7, c7, dq3, h7⟩ : VI (1) (1) (xf 3) wq := hd ⟨3, .data⟩ (by simp) rfl
      have dq1 : xf 1 = .bool true := hd ⟨1, .guard⟩ (by simp) rfl
      (try dsimp only); (try simp only [dq2, dq3, dq1])
      go_simp
      go_at_call 49
      (with_reducible refine (i_cmp_v2 _ b4 A4 n4 c4 (valZ B) (65536) ?_ b7 A7 n7 c7 (1) (1) ?_ (1) H4.out ?_).mono ?_); (exact (h4.keep hk).iz); (exact h7.iz); (first | omega | assumption); rintro e wr ⟨rfl, hbr⟩
      have hz := hK.out (.int .i64 (1)) _ rfl hbr
      simp only [dq2, dq3, dq1] at hz
      exact hz⟩
  · exact .inl ⟨by simp, by simp, fun xf wq hk hbl hd K hK => by
      have dq4 : xf 4 = .int .i64 (1) := hd ⟨4, .data⟩ (by simp) rfl
      have dq1 : xf 1 = .bool true := hd ⟨1, .guard⟩ (by simp) rfl
      (try dsimp only); (try simp only [dq4, dq1])
      go_simp
      have hz := hK.out (.bool false) _ rfl (brefl _)
      simp only [dq4, dq1] at hz
      exact hz⟩
  · exact .inl ⟨by simp, by simp, fun xf wq hk hbl hd K hK => by
      have dq5 : xf 5 = .bool false := hd ⟨5, .data⟩ (by simp) rfl
      have dq1 : xf 1 = .bool true := hd ⟨1, .guard⟩ (by simp) rfl
      (try dsimp only); (try simp only [dq5, dq1])
      go_simp
      have hz := hK.out (.bool false) _ rfl (brefl _)
      simp only [dq5, dq1] at hz
      exact hz⟩
  · exact .inl ⟨by simp, by simp, fun xf wq hk hbl hd K hK => by
      have dq6 : xf 6 = .bool false := hd ⟨6, .guard⟩ (by simp) rfl
      have y : Blk wq w3.heap.size 77 #[.bool b3, .slice A3 n3 c3] := hbl _ (List.Mem.tail _ (List.Mem.head _)) (by simp [Region.binds])
      obtain ⟨hcl0, hcl1⟩ := y.c2
      (try dsimp only); (try simp only [dq6])
      go_simp
      have hz := hK.out (.agg #[.bool b3, .slice A3 n3 c3]) _ rfl (brefl _)
      simp only [dq6] at hz
      exact hz⟩
  · exact .inl ⟨by simp, by simp, fun xf wq hk hbl hd K hK => by
      have dq6 : xf 6 = .bool false := hd ⟨6, .guard⟩ (by simp) rfl
      have y : Blk wq w4.heap.size 77 #[.bool b4, .slice A4 n4 c4] := hbl _ (List.Mem.tail _ (List.Mem.tail _ (List.Mem.head _))) (by simp [Region.binds])
      obtain ⟨hcl0, hcl1⟩ := y.c2
      (try dsimp only); (try simp only [dq6])
      go_simp
      have hz := hK.out (.agg #[.bool b4, .slice A4 n4 c4]) _ rfl (brefl _)
      simp only [dq6] at hz
      exact hz⟩
  · exact .inl ⟨by simp, by simp, fun xf wq hk hbl hd K hK => by
      have dq7 : xf 7 = .agg #[.bool b3, .slice A3 n3 c3] := hd ⟨7, .data⟩ (by simp) rfl
      have dq8 : xf 8 = .agg #[.bool b4, .slice A4 n4 c4] := hd ⟨8, .data⟩ (by simp) rfl
      have dq6 : xf 6 = .bool false := hd ⟨6, .guard⟩ (by simp) rfl
      (try dsimp only); (try simp only [dq7, dq8, dq6])
      go_simp
      go_at_call 61
      (with_reducible refine (i_gcd _ b3 A3 n3 c3 (valZ F) (65536) ?_ b4 A4 n4 c4 (valZ B) (65536) ?_ ?_).mono ?_); (exact (h3.keep hk).iz); (exact (h4.keep hk).iz); (omega); rintro e wr ⟨b9, A9, n9, c9, rfl, h9, hbr⟩
      have hz := hK.out _ _ ⟨b9, A9, n9, c9, rfl, h9⟩ hbr
      simp only [dq7, dq8, dq6] at hz
      exact hz⟩
  · exact .inl ⟨by simp, by simp, fun xf wq hk hbl hd K hK => by
      have dq6 : xf 6 = .bool false := hd ⟨6, .guard⟩ (by simp) rfl
      (try dsimp only); (try simp only [dq6])
      go_simp
      go_at_call 54
      (with_reducible refine (f_one _).mono ?_); rintro e wr ⟨b10, A10, n10, c10, rfl, h10, hbr⟩
      have hz := hK.out _ _ ⟨b10, A10, n10, c10, rfl, h10⟩ hbr
      simp only [dq6] at hz
      exact hz⟩
  · exact .inl ⟨by simp, by simp, fun xf wq hk hbl hd K hK => by
      obtain ⟨b9, A9, n9, c9, dq9, h9⟩ : VI ((Nat.gcd ((valZ F) : Int).natAbs ((valZ B) : Int).natAbs : Nat)) ((65536) + (65536)) (xf 9) wq := hd ⟨9, .data⟩ (by simp) rfl
      obtain ⟨b10, A10, n10, c10, dq10, h10⟩ : VI (1) (1) (xf 10) wq := hd ⟨10, .data⟩ (by simp) rfl
      have dq6 : xf 6 = .bool false := hd ⟨6, .guard⟩ (by simp) rfl
      (try dsimp only); (try simp only [dq9, dq10, dq6])
      go_simp
      go_at_call 49
      (with_reducible refine (i_cmp_v2 _ b9 A9 n9 c9 ((Nat.gcd ((valZ F) : Int).natAbs ((valZ B) : Int).natAbs : Nat)) ((65536) + (65536)) ?_ b10 A10 n10 c10 (1) (1) ?_ (0) H5.out ?_).mono ?_); (exact h9.iz); (exact h10.iz); (first | omega | assumption); rintro e wr ⟨rfl, hbr⟩
      have hz := hK.out (.int .i64 (0)) _ rfl hbr
      simp only [dq9, dq10, dq6] at hz
      exact hz⟩
  · exact .inl ⟨by simp, by simp, fun xf wq hk hbl hd K hK => by
      have dq11 : xf 11 = .int .i64 (0) := hd ⟨11, .data⟩ (by simp) rfl
      have dq6 : xf 6 = .bool false := hd ⟨6, .guard⟩ (by simp) rfl
      (try dsimp only); (try simp only [dq11, dq6])
      go_simp
      have hz := hK.out (.bool false) _ rfl (brefl _)
      simp only [dq11, dq6] at hz
      exact hz⟩
  · exact .inl ⟨by simp, by simp, fun xf wq hk hbl hd K hK => by
      have dq6 : xf 6 = .bool false := hd ⟨6, .data⟩ (by simp) rfl
      have dq12 : xf 12 = .bool false := hd ⟨12, .data⟩ (by simp) rfl
      have dq1 : xf 1 = .bool true := hd ⟨1, .guard⟩ (by simp) rfl
      (try dsimp only); (try simp only [dq6, dq12, dq1])
      go_simp
      have hz := hK.out (.bool false) _ rfl (brefl _)
      simp only [dq6, dq12, dq1] at hz
      exact hz⟩
  · exact .inl ⟨by simp, by simp, fun xf wq hk hbl hd K hK => by
      have dq1 : xf 1 = .bool true := hd ⟨1, .data⟩ (by simp) rfl
      have dq13 : xf 13 = .bool false := hd ⟨13, .data⟩ (by simp) rfl
      (try dsimp only); (try simp only [dq1, dq13])
      go_simp
      have hz := hK.out (.bool false) _ rfl (brefl _)
      simp only [dq1, dq13] at hz
      exact hz⟩
  clear cx4a lx4a cx5a lx5a
  intro y6 w6 kq6 hbl6 lw6 how hrr hfl hds
  replace h3 := h3.keep kq6
  replace h4 := h4.keep kq6
  obtain ⟨_, z6_0, ez, _⟩ := how _ (List.Mem.head _)
  obtain rfl := ez (by simp)
  dsimp only at z6_0
  obtain ⟨_, z6_1, ez, _⟩ := how _ (List.Mem.tail _ (List.Mem.head _))
  obtain rfl := ez (by simp)
  dsimp only at z6_1
  obtain ⟨_, z6_2, ez, _⟩ := how _ (List.Mem.tail _ (List.Mem.tail _ (List.Mem.head _)))
  obtain rfl := ez (by simp)
  dsimp only at z6_2
  have ea14 : y6 14 = .bool false := hrr 14 (by simp)
  (try dsimp only)
  simp only [ea14]
  clear hrr hfl how hds ea14
  clear x1a x4a x5a
  have bw6 := bw5.trans hbl6
  clear bw5
  have cz6_1_0 : w6.cell? ⟨w3.heap.size, 0, none⟩ = some (.bool b3) := z6_1.cell 0
  have cz6_1_1 : w6.cell? ⟨w3.heap.size, 1, none⟩ = some (.slice A3 n3 c3) := z6_1.cell 1
  have lz6_1 := lts0 z6_1.lt
  have cz6_2_0 : w6.cell? ⟨w4.heap.size, 0, none⟩ = some (.bool b4) := z6_2.cell 0
  have cz6_2_1 : w6.cell? ⟨w4.heap.size, 1, none⟩ = some (.slice A4 n4 c4) := z6_2.cell 1
  have lz6_2 := lts0 z6_2.lt
  go_wp2_with fail
  (with_reducible refine (f_form _ b3 A3 n3 c3 (valZ F) (65536) ?_ b4 A4 n4 c4 (valZ B) (65536) ?_ (Rat.divInt (valZ F) (valZ B)) 65536 ?_ ?_ ?_ ?_).mono ?_); (exact h3.iz); (exact h4.iz); (exact HNE.out); (rfl); (exact HS.out); (omega); rintro e w13 ⟨b13, A13, n13, c13, A'13, n'13, c'13, rfl, h13, q13⟩
  clear cz6_1_0 cz6_1_1 lz6_1 cz6_2_0 cz6_2_1 lz6_2
  replace h3 := h3.belw q13
  replace h4 := h4.belw q13
  replace z6_0 := z6_0.b q13
  replace z6_1 := z6_1.b q13
  replace z6_2 := z6_2.b q13
  have bw13 := bw6.trans (q13.mono bw6.size)
  have lw13 := q13.size
  clear q13 bw6
  have cz6_0 := z6_0.c3
  have fz6_0 := z6_0.f3
  have lz6_0 := lts0 z6_0.lt
  go_wp2_with fail
  refine bodyPost_ret (v := .tuple #[.agg #[.bool b13, .slice A13 n13 c13, .slice A'13 n'13 c'13], .nilIface]) (by simp [results, Tryz.results31, go_sem, *] <;> trivial) rfl ?_
  exact ⟨b13, A13, n13, c13, A'13, n'13, c'13, rfl, h13.keep ((((Kp.refl w13).sb w.heap.size 0 z6_0.box (by decide) (.bool b13)).sb w.heap.size 1 (z6_0.box.set ⟨w.heap.size, 0, none⟩ (.bool b13)) (by decide) (.slice A13 n13 c13)).sb w.heap.size 2 ((z6_0.box.set ⟨w.heap.size, 0, none⟩ (.bool b13)).set ⟨w.heap.size, 1, none⟩ (.slice A13 n13 c13)) (by decide) (.slice A'13 n'13 c'13)), (((bw13.sc w.heap.size 0 (by omega) (.bool b13)).sc w.heap.size 1 (by omega) (.slice A13 n13 c13)).sc w.heap.size 2 (by omega) (.slice A'13 n'13 c'13))⟩
theorem f_parse_w1 (w : World) (s : List UInt8) (hmx : Mx w) (hl : s.length ≤ 65536) (hd : Lib.cut s [46] = (s, [], false)) (hc : Lib.cut s [47] = (s, [], false)) (h1 : okZ s = false) :
  Calls Tryz.prog 31 #[strV s] w (RetFe w (.iface 57 (.int .i64 2)) 0 1) := by
 have hszs := size_v s
 have hlen : ((65536 : Int) < (s.length : Int)) = False := by simp; omega
 have HC := Lib.hid hc
 have HD := Lib.hid hd
 clear hc hd
 have H1 := Lib.hid h1
 clear h1
 have HO := Lib.hid (show okZ [49] = true from by decide)
 go_enter Tryz.func31, Tryz.ntmps31
 go_wp2_with fail
 (with_reducible refine (cut_v _ (s) 46 (s) ([]) false (hmx.belw ((brefl w).alloc (by first | omega | (simp <;> omega)) (.cells #[.bool false, .slice none 0 0, .slice none 0 0] 24))) (by omega) HD.out).mono ?_); rintro e w1 ⟨rfl, hb1⟩
 have q1 := hb1.q1
 have x1a : Blk w1 w.heap.size 24 #[.bool false, .slice none 0 0, .slice none 0 0] := (blkAt _ _ _ (by simp)).below hb1 (by simp)
 have bw1 := (brefl w).trans (q1.mono (brefl w).size)
 have lw1 := hb1.l1
 clear q1
 go_wp2_with fail
 (with_reducible refine (cut_v _ (s) 47 (s) ([]) false (hmx.belw bw1) (by omega) HC.out).mono ?_); rintro e w2 ⟨rfl, q2⟩
 replace x1a := x1a.b q2
 have bw2 := bw1.trans (q2.mono bw1.size)
 have lw2 := q2.size
 clear q2 bw1
 go_wp2_with fail
 (with_reducible refine (i_parse_bad _ (s) (by omega) H1.out).mono ?_); rintro e w3 ⟨b3, A3, n3, c3, rfl, h3, q3⟩
 replace x1a := x1a.b q3
 have bw3 := bw2.trans (q3.mono bw2.size)
 have lw3 := q3.size
 clear q3 bw2
 go_wp2_with fail
 (with_reducible refine (i_parse_one _ ([49]) rfl).mono ?_); rintro e w4 ⟨b4, A4, n4, c4, rfl, h4, hb4⟩
 have q4 := hb4.q1
 replace h3 := h3.belw q4
 replace x1a := x1a.b q4
 have x4a : Blk w4 w3.heap.size 77 #[.bool b3, .slice A3 n3 c3] := (blkAt _ _ _ (by simp)).below hb4 (by simp)
 have bw4 := bw3.trans (q4.mono bw3.size)
 have lw4 := hb4.l1
 clear q4 bw3
 have cx1a := x1a.c3
 have fx1a := x1a.f3
 have lx1a := lts0 x1a.lt
 go_wp2_with fail
 refine bodyPost_ret (v := .tuple #[.agg #[.bool false, .slice none 0 0, .slice none 0 0], .iface 57 (.int .i64 2)]) (by simp [results, Tryz.results31, go_sem, *] <;> trivial) rfl ?_
 exact ⟨_, _, _, _, _, _, _, rfl, QV.zero _ _, ((((bw4.sc w.heap.size 0 (by omega) (.bool false)).sc w.heap.size 1 (by omega) (.slice none 0 0)).sc w.heap.size 2 (by omega) (.slice none 0 0)).alloc (by first | omega | (simp <;> omega)) (.cells #[.bool b4, .slice A4 n4 c4] 77))⟩
theorem f_parse_w2 (w : World) (s : List UInt8) (hmx : Mx w) (hl : s.length ≤ 65536) (hd : Lib.cut s [46] = (s, [], false)) (hc : Lib.cut s [47] = (s, [], false)) (h1 : okZ s = true) :
    Calls Tryz.prog 31 #[strV s] w (RetFe w .nilIface ((valZ s : Int) : Rat) 65536) := by
  have HS := Lib.hid (Sz_int (valZ_lt2 h1 hl) (by decide))
  have hszs := size_v s
  have hlen : ((65536 : Int) < (s.length : Int)) = False := by simp; omega
  have HC := Lib.hid hc
  have HD := Lib.hid hd
  clear hc hd
  have H1 := Lib.hid h1
  clear h1
  go_enter Tryz.func31, Tryz.ntmps31
  go_wp2_with fail
  (with_reducible refine (cut_v _ (s) 46 (s) ([]) false (hmx.belw ((brefl w).alloc (by first | omega | (simp <;> omega)) (.cells #[.bool false, .slice none 0 0, .slice none 0 0] 24))) (by omega) HD.out).mono ?_); rintro e w1 ⟨rfl, hb1⟩
  have q1 := hb1.q1
  have x1a : Blk w1 w.heap.size 24 #[.bool false, .slice none 0 0, .slice none 0 0] := (blkAt _ _ _ (by simp)).below hb1 (by simp)
  have bw1 := (brefl w).trans (q1.mono (brefl w).size)
  have lw1 := hb1.l1
  clear q1
  go_wp2_with fail
  (with_reducible refine (cut_v _ (s) 47 (s) ([]) false (hmx.belw bw1) (by omega) HC.out).mono ?_); rintro e w2 ⟨rfl, q2⟩
  replace x1a := x1a.b q2
  have bw2 := bw1.trans (q2.mono bw1.size)
  have lw2 := q2.size
  clear q2 bw1
  go_wp2_with fail
  (with_reducible refine (i_parse_ok6 _ (s) (by omega) H1.out).mono ?_); rintro e w3 ⟨b3, A3, n3, c3, rfl, h3, q3⟩
  replace x1a := x1a.b q3
  have bw3 := bw2.trans (q3.mono bw2.size)
  have lw3 := q3.size
  clear q3 bw2
  go_wp2_with fail
  (with_reducible refine (i_parse_one _ ([49]) rfl).mono ?_); rintro e w4 ⟨b4, A4, n4, c4, rfl, h4, hb4⟩
  have q4 := hb4.q1
  replace h3 := h3.belw q4
  replace x1a := x1a.b q4
  have x4a : Blk w4 w3.heap.size 77 #[.bool b3, .slice A3 n3 c3] := (blkAt _ _ _ (by simp)).below hb4 (by simp)
  have bw4 := bw3.trans (q4.mono bw3.size)
  have lw4 := hb4.l1
  clear q4 bw3
  go_wp2_with fail
  (with_reducible refine (i_sign_e _ b4 A4 n4 c4 (1) (1) ?_ (1) ?_ ?_).mono ?_); (exact (h4.belw ((Below.refl _ _).alloc (Nat.le_refl _) _)).iz); (exact rfl); (omega); rintro e w5 ⟨rfl, hb5⟩
  have q5 := hb5.q1
  replace h3 := h3.belw q5
  replace h4 := h4.belw q5
  replace x1a := x1a.b q5
  replace x4a := x4a.b q5
  have x5a : Blk w5 w4.heap.size 77 #[.bool b4, .slice A4 n4 c4] := (blkAt _ _ _ (by simp)).below hb5 (by simp)
  have bw5 := bw4.trans (q5.mono bw4.size)
  have lw5 := hb5.l1
  clear q5 bw4
  go_wp2_with fail
  refine wp_region_lin (B := w.heap.size) (fr := fun xf => ⟨List.toArray (strV s :: undef :: .pointer (some ⟨w.heap.size, 0, none⟩) :: .nilIface :: strV s :: strV [] :: .bool false :: strV s :: .string ⟨[49].toArray⟩ :: .bool false :: .pointer (some ⟨w3.heap.size, 0, none⟩) :: .nilIface :: .pointer (some ⟨w4.heap.size, 0, none⟩) :: .nilIface :: strV s :: .int .i64 (s.length : Nat) :: .bool false :: undef :: undef :: .tuple #[strV s, strV [], .bool false] :: strV s :: .tuple #[strV s, strV [], .bool false] :: strV s :: strV [] :: .bool false :: .bool false :: undef :: undef :: undef :: undef :: undef :: undef :: undef :: undef :: undef :: undef :: .tuple #[strV s, strV [], .bool false] :: strV s :: .tuple #[strV s, strV [], .bool false] :: strV s :: strV [] :: .bool false :: .bool false :: .bool true :: .tuple #[.agg #[.bool b3, .slice A3 n3 c3], .nilIface] :: strV s :: .tuple #[.agg #[.bool b3, .slice A3 n3 c3], .nilIface] :: .agg #[.bool b3, .slice A3 n3 c3] :: .nilIface :: .tuple #[.agg #[.bool b4, .slice A4 n4 c4], .nilIface] :: .string ⟨[49].toArray⟩ :: .tuple #[.agg #[.bool b4, .slice A4 n4 c4], .nilIface] :: .agg #[.bool b4, .slice A4 n4 c4] :: .nilIface :: .nilIface :: .bool false :: .bool false :: .nilIface :: .bool false :: .bool false :: .bool false :: .agg #[.bool b4, .slice A4 n4 c4] :: .int .i64 1 :: .bool false :: .bool false :: undef :: undef :: xf 0 :: xf 1 :: xf 2 :: xf 3 :: xf 4 :: xf 5 :: xf 6 :: xf 7 :: xf 8 :: xf 9 :: xf 10 :: xf 11 :: xf 12 :: xf 13 :: xf 14 :: undef :: undef :: undef :: undef :: undef :: []), []⟩) (R := fun ri => List.getD ((PEq (.bool false)) :: (PEq (.bool false)) :: (PEq undef) :: (PEq undef) :: (PEq undef) :: (PEq undef) :: (PEq undef) :: (PEq undef) :: (PEq undef) :: (PEq undef) :: (PEq undef) :: (PEq undef) :: (PEq undef) :: (PEq undef) :: (PEq (.bool false)) :: []) ri (fun _ _ => True)) (es := []) (ow := [⟨w.heap.size, 15, 0, 24, #[.bool false, .slice none 0 0, .slice none 0 0], CAny⟩, ⟨w3.heap.size, 15, 0, 77, #[.bool b3, .slice A3 n3 c3], CAny⟩, ⟨w4.heap.size, 15, 0, 77, #[.bool b4, .slice A4 n4 c4], CAny⟩]) (x0 := (fun _ => undef)) (by kernel_rfl)
    (each_of ⟨fun _ _ => rfl, fun _ _ => rfl, fun _ _ => rfl, fun _ _ => rfl, fun _ _ => rfl, fun _ _ => rfl, fun _ _ => rfl, fun _ _ => rfl, fun _ _ => rfl, fun _ _ => rfl, fun _ _ => rfl, fun _ _ => rfl, fun _ _ => rfl, fun _ _ => rfl, fun _ _ => rfl, trivial⟩) (each_of (acyc_from _ 0 (by kernel_rfl))) (AllStab.get _ ⟨stEq _, stEq _, stEq _, stEq _, stEq _, stEq _, stEq _, stEq _, stEq _, stEq _, stEq _, stEq _, stEq _, stEq _, stEq _, trivial⟩)
    (fun _ h => nomatch h) (fmc ⟨scAny, fmc ⟨scAny, fmc ⟨scAny, fun _ h => nomatch h⟩⟩⟩) (fun _ h => nomatch h) bw5.size
    (fmc ⟨⟨x1a, by show w.heap.size ≤ w.heap.size; omega⟩, fmc ⟨⟨x4a, by show w.heap.size ≤ w3.heap.size; omega⟩, fmc ⟨⟨x5a, by show w.heap.size ≤ w4.heap.size; omega⟩, fun _ h => nomatch h⟩⟩⟩) (ownDist (by simp <;> omega))
    (each_of ⟨?_, ?_, ?_, ?_, ?_, ?_, ?_, ?_, ?_, ?_, ?_, ?_, ?_, ?_, ?_, trivial⟩) ?_
  · exact .inl ⟨by simp, by simp, fun xf wq hk hbl hd K hK => by
      (try dsimp only)
      go_simp
      exact hK.out (.bool false) _ rfl (brefl _)⟩
  · exact .inl ⟨by simp, by simp, fun xf wq hk hbl hd K hK => by
      have dq0 : xf 0 = .bool false := hd ⟨0, .data⟩ (by simp) rfl
      (try dsimp only); (try simp only [dq0])
      go_simp
      have hz := hK.out (.bool false) _ rfl (brefl _)
      simp only [dq0] at hz
      exact hz⟩
  · exact .inl ⟨by simp, by simp, fun xf wq hk hbl hd K hK => by
      have dq1 : xf 1 = .bool false := hd ⟨1, .guard⟩ (by simp) rfl
      (try dsimp only); (try simp only [dq1])
      go_simp
      have hz := hK.out undef _ rfl (brefl _)
      simp only [dq1] at hz
      exact hz⟩
  · exact .inl ⟨by simp, by simp, fun xf wq hk hbl hd K hK => by
      have dq1 : xf 1 = .bool false := hd ⟨1, .guard⟩ (by simp) rfl
      (try dsimp only); (try simp only [dq1])
      go_simp
      have hz := hK.out undef _ rfl (brefl _)
      simp only [dq1] at hz
      exact hz⟩
  · exact .inl ⟨by simp, by simp, fun xf wq hk hbl hd K hK => by
      have dq1 : xf 1 = .bool false := hd ⟨1, .guard⟩ (by simp) rfl
      (try dsimp only); (try simp only [dq1])
      go_simp
      have hz := hK.out undef _ rfl (brefl _)
      simp only [dq1] at hz
      exact hz⟩
  · exact .inl ⟨by simp, by simp, fun xf wq hk hbl hd K hK => by
      have dq1 : xf 1 = .bool false := hd ⟨1, .guard⟩ (by simp) rfl
      (try dsimp only); (try simp only [dq1])
      go_simp
      have hz := hK.out undef _ rfl (brefl _)
      simp only [dq1] at hz
      exact hz⟩
  · exact .inl ⟨by simp, by simp, fun xf wq hk hbl hd K hK => by
      have dq1 : xf 1 = .bool false := hd ⟨1, .guard⟩ (by simp) rfl
      (try dsimp only); (try simp only [dq1])
      go_simp
      have hz := hK.out undef _ rfl (brefl _)
      simp only [dq1] at hz
      exact hz⟩
  · exact .inl ⟨by simp, by simp, fun xf wq hk hbl hd K hK => by
      have dq6 : xf 6 = undef := hd ⟨6, .guard⟩ (by simp) rfl
      (try dsimp only); (try simp only [dq6])
      go_simp
      have hz := hK.out undef _ rfl (brefl _)
      simp only [dq6] at hz
      exact hz⟩
  · exact .inl ⟨by simp, by simp, fun xf wq hk hbl hd K hK => by
      have dq6 : xf 6 = undef := hd ⟨6, .guard⟩ (by simp) rfl
      (try dsimp only); (try simp only [dq6])
      go_simp
      have hz := hK.out undef _ rfl (brefl _)
      simp only [dq6] at hz
      exact hz⟩
  · exact .inl ⟨by simp, by simp, fun xf wq hk hbl hd K hK => by
      have dq6 : xf 6 = undef := hd ⟨6, .guard⟩ (by simp) rfl
      (try dsimp only); (try simp only [dq6])
      go_simp
      have hz := hK.out undef _ rfl (brefl _)
      simp only [dq6] at hz
      exact hz⟩
  · exact .inl ⟨by simp, by simp, fun xf wq hk hbl hd K hK => by
      have dq6 : xf 6 = undef := hd ⟨6, .guard⟩ (by simp) rfl
      (try dsimp only); (try simp only [dq6])
      go_simp
      have hz := hK.out undef _ rfl (brefl _)
      simp only [dq6] at hz
      exact hz⟩
  · exact .inl ⟨by simp, by simp, fun xf wq hk hbl hd K hK => by
      have dq6 : xf 6 = undef := hd ⟨6, .guard⟩ (by simp) rfl
      (try dsimp only); (try simp only [dq6])
      go_simp
      have hz := hK.out undef _ rfl (brefl _)
      simp only [dq6] at hz
      exact hz⟩
  · exact .inl ⟨by simp, by simp, fun xf wq hk hbl hd K hK => by
      have dq6 : xf 6 = undef := hd ⟨6, .guard⟩ (by simp) rfl
      (try dsimp only); (try simp only [dq6])
      go_simp
      have hz := hK.out undef _ rfl (brefl _)
      simp only [dq6] at hz
      exact hz⟩
  · exact .inl ⟨by simp, by simp, fun xf wq hk hbl hd K hK => by
      have dq1 : xf 1 = .bool false := hd ⟨1, .guard⟩ (by simp) rfl
      (try dsimp only); (try simp only [dq1])
      go_simp
      have hz := hK.out undef _ rfl (brefl _)
      simp only [dq1] at hz
      exact hz⟩
  · exact .inl ⟨by simp, by simp, fun xf wq hk hbl hd K hK => by
      have dq1 : xf 1 = .bool false := hd ⟨1, .data⟩ (by simp) rfl
      have dq13 : xf 13 = undef := hd ⟨13, .data⟩ (by simp) rfl
      (try dsimp only); (try simp only [dq1, dq13])
      go_simp
      have hz := hK.out (.bool false) _ rfl (brefl _)
      simp only [dq1, dq13] at hz
      exact hz⟩
  intro y6 w6 kq6 hbl6 lw6 how hrr hfl hds
  replace h3 := h3.keep kq6
  replace h4 := h4.keep kq6
  obtain ⟨_, z6_0, ez, _⟩ := how _ (List.Mem.head _)
  obtain rfl := ez (by simp)
  dsimp only at z6_0
  obtain ⟨_, z6_1, ez, _⟩ := how _ (List.Mem.tail _ (List.Mem.head _))
  obtain rfl := ez (by simp)
  dsimp only at z6_1
  obtain ⟨_, z6_2, ez, _⟩ := how _ (List.Mem.tail _ (List.Mem.tail _ (List.Mem.head _)))
  obtain rfl := ez (by simp)
  dsimp only at z6_2
  have ea14 : y6 14 = .bool false := hrr 14 (by simp)
  (try dsimp only)
  simp only [ea14]
  clear hrr hfl how hds ea14
  clear x1a x4a x5a
  have bw6 := bw5.trans hbl6
  clear bw5
  have cz6_1 := z6_1.c2
  have lz6_1 := lts0 z6_1.lt
  have cz6_2 := z6_2.c2
  have lz6_2 := lts0 z6_2.lt
  go_wp2_with fail
  (with_reducible refine (f_form _ b3 A3 n3 c3 (valZ s) (65536) ?_ b4 A4 n4 c4 (1) (1) ?_ ((valZ s : Int) : Rat) 65536 ?_ ?_ ?_ ?_).mono ?_); (exact h3.iz); (exact h4.iz); (decide); (exact int_q _); (exact HS.out); (omega); rintro e w8 ⟨b8, A8, n8, c8, A'8, n'8, c'8, rfl, h8, q8⟩
  clear cz6_1 lz6_1 cz6_2 lz6_2
  replace h3 := h3.belw q8
  replace h4 := h4.belw q8
  replace z6_0 := z6_0.b q8
  replace z6_1 := z6_1.b q8
  replace z6_2 := z6_2.b q8
  have bw8 := bw6.trans (q8.mono bw6.size)
  have lw8 := q8.size
  clear q8 bw6
  have cz6_0 := z6_0.c3
  have fz6_0 := z6_0.f3
  have lz6_0 := lts0 z6_0.lt
  go_wp2_with fail
  refine bodyPost_ret (v := .tuple #[.agg #[.bool b8, .slice A8 n8 c8, .slice A'8 n'8 c'8], .nilIface]) (by simp [results, Tryz.results31, go_sem, *] <;> trivial) rfl ?_
  exact ⟨b8, A8, n8, c8, A'8, n'8, c'8, rfl, h8.keep ((((Kp.refl w8).sb w.heap.size 0 z6_0.box (by decide) (.bool b8)).sb w.heap.size 1 (z6_0.box.set ⟨w.heap.size, 0, none⟩ (.bool b8)) (by decide) (.slice A8 n8 c8)).sb w.heap.size 2 ((z6_0.box.set ⟨w.heap.size, 0, none⟩ (.bool b8)).set ⟨w.heap.size, 1, none⟩ (.slice A8 n8 c8)) (by decide) (.slice A'8 n'8 c'8)), (((bw8.sc w.heap.size 0 (by omega) (.bool b8)).sc w.heap.size 1 (by omega) (.slice A8 n8 c8)).sc w.heap.size 2 (by omega) (.slice A'8 n'8 c'8))⟩
end Go.Proofs.YtianjkiakkclgaaGreatDoor

/- fraction.Parse by what a text gives. -/
namespace Go.Proofs.YtianjkiakkclgaaGreatDoor
open Go Go.RowKit Bn
attribute [local go_sem ↓] Go.wp_at_zero Go.wp_at_succ
theorem f_parse_o (w : World) (s : List UInt8) (x : Int) (q : Rat) (hmx : Mx w) (h : FracOut s x q) : Calls Tryz.prog 31 #[strV s] w (RetFe w (errV x) q 65536) := by
  have mono : ∀ {v : Value} {q : Rat} {k : Nat} {e : Ending} {w' : World}, k ≤ 65536 → RetFe w v q k e w' → RetFe w v q 65536 e w' := by
    rintro v q k e w' hk ⟨b, A, n, c, D, m, d, he, hv, hb⟩
    exact ⟨b, A, n, c, D, m, d, he, hv.mono hk, hb⟩
  rcases h with ⟨h, rfl, rfl⟩ | ⟨F, B, hl, hs, hF, h64, h, rfl, rfl⟩ | ⟨F, B, hl, hs, hF, h, rfl, rfl⟩ | ⟨F, B, hl, hd, hs, hF, h, rfl, rfl⟩ | ⟨F, B, hl, hd, hs, hF, h, rfl, rfl⟩ | ⟨hl, hd, hs, h, rfl, rfl⟩ | ⟨hl, hd, hs, h, rfl, rfl⟩
  · rw [errV_4]; exact (f_parse_big w s h).mono fun _ _ r => mono (by decide) r
  · have hc : Lib.cut s [46] = (F, B, true) := by rw [hs]; exact cut_at hF
    have hFB : F.length + B.length ≤ 64 := by rw [hs] at h64; simp at h64; omega
    exact (f_parse_dot2 w s F B hmx hl hc h64 hFB 0 _ (.inl ⟨h, rfl, rfl⟩)).mono fun _ _ r => mono (by decide) r
  · have hc : Lib.cut s [46] = (F, B, true) := by rw [hs]; exact cut_at hF
    by_cases h64 : 64 < s.length
    · rw [errV_2]; exact (f_parse_dot1 w s F B hmx hl hc h64).mono fun _ _ r => mono (by decide) r
    · have h := h.resolve_left h64
      have hFB : F.length + B.length ≤ 64 := by rw [hs] at h64; simp at h64; omega
      exact (f_parse_dot2 w s F B hmx hl hc (by omega) hFB 2 _ (.inr ⟨h, rfl, rfl⟩)).mono fun _ _ r => mono (by decide) r
  · have hd2 := cut_no hd
    have hc : Lib.cut s [47] = (F, B, true) := by rw [hs]; exact cut_at hF
    have hF6 : F.length ≤ 65536 := by rw [hs] at hl; simp at hl; omega
    have hB6 : B.length ≤ 65536 := by rw [hs] at hl; simp at hl; omega
    obtain ⟨h1, h2, h3, h4, h5⟩ := quoOk_parts h
    rw [errV_0]
    refine f_parse_q6 w s F B hmx hl hd2 hc hF6 hB6 h1 h2 (Int.sign_eq_one_of_pos h3) ?_ ?_
    · unfold cmpI; rw [if_neg (by omega), if_neg (by omega)]
    · rw [h5]; rfl
  · have hd2 := cut_no hd
    have hc : Lib.cut s [47] = (F, B, true) := by rw [hs]; exact cut_at hF
    have hF6 : F.length ≤ 65536 := by rw [hs] at hl; simp at hl; omega
    have hB6 : B.length ≤ 65536 := by rw [hs] at hl; simp at hl; omega
    rw [errV_2]
    rcases quoOk_not h with h1 | ⟨h1, h2⟩ | ⟨h1, h2, h3⟩ | ⟨h1, h2, h3, h4⟩ | ⟨h1, h2, h3, h4, h5⟩
    · exact (f_parse_q1 w s F B hmx hl hd2 hc hF6 hB6 h1).mono fun _ _ r => mono (by decide) r
    · exact (f_parse_q2 w s F B hmx hl hd2 hc hF6 hB6 h1 h2).mono fun _ _ r => mono (by decide) r
    · refine (f_parse_q3 w s F B hmx hl hd2 hc hF6 hB6 h1 h2 ?_).mono fun _ _ r => mono (by decide) r
      rcases sign3 (valZ B) with e | e | e
      · rw [e]; decide
      · have := Int.sign_eq_one_iff_pos.1 e; omega
      · rw [e]; decide
    · exact f_parse_q4 w s F B hmx hl hd2 hc hF6 hB6 h1 h2 (Int.sign_eq_one_of_pos h3) (by rw [h4]; rfl)
    · have hg : 0 < Nat.gcd (valZ F).natAbs (valZ B).natAbs := Nat.gcd_pos_of_pos_right _ (by omega)
      refine f_parse_q5 w s F B hmx hl hd2 hc hF6 hB6 h1 h2 (Int.sign_eq_one_of_pos h3) ?_ ?_
      · unfold cmpI; rw [if_neg (by omega), if_neg (by omega)]
      · unfold cmpI; rw [if_neg (by omega), if_neg (by omega)]
  · rw [errV_0]; exact f_parse_w2 w s hmx hl (cut_no hd) (cut_no hs) h
  · rw [errV_2]; exact (f_parse_w1 w s hmx hl (cut_no hd) (cut_no hs) h).mono fun _ _ r => mono (by decide) r
end Go.Proofs.YtianjkiakkclgaaGreatDoor

/- Walks: the texts of fractions. -/
namespace Go.Proofs.YtianjkiakkclgaaGreatDoor
open Go Go.RowKit Bn
attribute [local go_sem ↓] Go.wp_at_zero Go.wp_at_succ
theorem itoa_le {z : Int} {k K : Nat} (h : z.natAbs < 4294967296 ^ k) (hk : k ≤ K) (h0 : 0 < K) : (Lib.itoa z).length ≤ 10 * K + 1 := by
  have h2 : Lib.nDigits z.natAbs ≤ 10 * K := nDig_words' hk h0 h
  rw [itoa_abs, List.length_append, Lib.decDigits_length]
  split <;> simp <;> omega
theorem cat_slash (X Y : List UInt8) : ((⟨X.toArray⟩ : ByteArray) ++ ⟨#[47]⟩) ++ ⟨Y.toArray⟩ = ⟨(X ++ 47 :: Y).toArray⟩ := by
  rw [show (⟨#[47]⟩ : ByteArray) = ⟨[47].toArray⟩ from rfl, cat_v, cat_v, List.append_assoc]; rfl
theorem ratText_1 {q : Rat} (h : q.den = 1) : ratText q = Lib.itoa q.num := if_pos h
theorem ratText_2 {q : Rat} (h : q.den ≠ 1) : ratText q = Lib.itoa q.num ++ 47 :: Lib.itoa (q.den : Int) := if_neg h
theorem r01_cmp_v (w : World) (b A n c z k) (h : IZ w b A n c z k) (b' A' n' c' z' k') (h' : IZ w b' A' n' c' z' k') (v : Int) (hv : cmpI z z' = v) (hk : k + k' ≤ 999999999) : Calls Tryz.prog 107 #[.agg #[.bool b, .slice A n c], .agg #[.bool b', .slice A' n' c']] w (RetV w (.int .i64 v)) := by
  subst hv; exact r01_cmp w b A n c z k h b' A' n' c' z' k' h' hk
theorem cmpI_ne {x y : Int} (h : x ≠ y) : cmpI x y ≠ 0 := by
  unfold cmpI; (repeat' split) <;> omega
theorem cmpI_one : cmpI 1 1 = 0 := by decide
theorem g_text_1 (w : World) (b A n c D m e q k) (h : QZ w b A n c D m e q k) (h0 : 0 < k) (hk : k ≤ 40000000) (hd : q.den = 1) :
    Calls Tryz.prog 73 #[.agg #[.bool b, .slice A n c, .slice D m e]] w (RetV w (strV (ratText q))) := by
  rw [ratText_1 hd]
  have HC := Lib.hid (show cmpI (q.den : Int) 1 = 0 by rw [hd]; exact cmpI_one)
  clear hd
  go_enter Tryz.func73, Tryz.ntmps73
  go_wp2_with fail
  (with_reducible refine (g_parts _ b A n c D m e (q) (k) ?_ ?_ ?_).mono ?_); (exact (h.belw ((Below.refl _ _).alloc (Nat.le_refl _) _))); (omega); (omega); rintro e w1 ⟨b1, A1, n1, c1, b'1, A'1, n'1, c'1, rfl, h1, h'1, hb1⟩
  have q1 := hb1.q1
  replace h := h.belw q1
  have x1a : Blk w1 w.heap.size 24 #[.bool b, .slice A n c, .slice D m e] := (blkAt _ _ _ (by simp)).below hb1 (by simp)
  have bw1 := (brefl w).trans (q1.mono (brefl w).size)
  have lw1 := hb1.l1
  clear q1
  go_wp2_with fail
  have p2 := (((Kp.refl w1).alloc (.cells #[.bool b1, .slice A1 n1 c1] 77)).alloc (.cells #[.bool b'1, .slice A'1 n'1 c'1] 77))
  have bw2 := ((bw1.alloc (by first | omega | (simp <;> omega)) (.cells #[.bool b1, .slice A1 n1 c1] 77)).alloc (by first | omega | (simp <;> omega)) (.cells #[.bool b'1, .slice A'1 n'1 c'1] 77))
  have x2a : Blk ((w1.alloc (.cells #[.bool b1, .slice A1 n1 c1] 77)).alloc (.cells #[.bool b'1, .slice A'1 n'1 c'1] 77)) w1.heap.size 77 #[.bool b1, .slice A1 n1 c1] := ((blkAt _ _ _ (by simp)).alloc (.cells #[.bool b'1, .slice A'1 n'1 c'1] 77))
  have x2b : Blk ((w1.alloc (.cells #[.bool b1, .slice A1 n1 c1] 77)).alloc (.cells #[.bool b'1, .slice A'1 n'1 c'1] 77)) (w1.heap.size + 1) 77 #[.bool b'1, .slice A'1 n'1 c'1] := (blkAt _ _ _ (by simp))
  replace x1a := ((x1a.alloc (.cells #[.bool b1, .slice A1 n1 c1] 77)).alloc (.cells #[.bool b'1, .slice A'1 n'1 c'1] 77))
  have lw2 : w1.heap.size + 2 ≤ ((w1.alloc (.cells #[.bool b1, .slice A1 n1 c1] 77)).alloc (.cells #[.bool b'1, .slice A'1 n'1 c'1] 77)).heap.size := by simp
  generalize hE2 : ((w1.alloc (.cells #[.bool b1, .slice A1 n1 c1] 77)).alloc (.cells #[.bool b'1, .slice A'1 n'1 c'1] 77)) = w2 at p2 bw2 lw2 x2a x2b x1a ⊢
  clear hE2
  replace h := h.keep p2
  replace h1 := h1.keep p2
  replace h'1 := h'1.keep p2
  clear bw1
  have lx1a := lts0 x1a.lt
  obtain ⟨lx2aa, lx2ab, lx2ac, lx2ad⟩ := lts0 x2a.lt
  have cx2b := x2b.c2
  have lx2b := lts1 x2b.lt
  go_region_held3 (fun w' => Sees w2.heap.size w2 w') (first | with_reducible exact Sees.of (Nat.le_refl _) (by assumption) | with_reducible exact Sees.of (Nat.le_refl _) (brefl _).drew | exact Sees.of (Nat.le_refl _) (below_drewN (brefl _) 1) | exact Sees.of (Nat.le_refl _) (below_drewN (by assumption) _))
    (first
      | (go_at_call 66; (with_reducible refine (g_one _).mono ?_); rintro e w3 ⟨b3, A3, n3, c3, rfl, h3, hb3⟩; replace hb3 := bnext (below_drewN (brefl _) 1) hb3; have q3 : Below w2.heap.size w2 w3 := bnext (brefl w2) hb3; replace h := h.belw hb3; replace h1 := h1.belw hb3; replace h'1 := h'1.belw hb3)
      | (go_at_call 107; (with_reducible refine (r01_cmp_v _ b'1 A'1 n'1 c'1 (((q).den : Int)) ((k)) ?_ b3 A3 n3 c3 (1) (1) ?_ 0 HC.out ?_).mono ?_); (exact h'1.iz); (exact h3.iz); (omega); rintro e w4 ⟨rfl, hb4⟩; have q4 : Below w2.heap.size w2 w4 := bnext q3 hb4; replace h := h.belw hb4; replace h1 := h1.belw hb4; replace h'1 := h'1.belw hb4; replace h3 := h3.belw hb4))
  have bw4 := bw2.trans (q4.mono bw2.size)
  clear lx1a lx2aa lx2ab lx2ac lx2ad cx2b lx2b
  replace x1a := x1a.b q4
  replace x2a := x2a.b q4
  replace x2b := x2b.b q4
  have lw4 := q4.size
  have cx2a := x2a.c2
  obtain ⟨lx2aa, lx2ab, lx2ac, lx2ad⟩ := lts0 x2a.lt
  go_wp2_with fail
  (with_reducible refine (r01_text_l _ b1 A1 n1 c1 ((q).num) ((k)) ?_ (Lib.itoa q.num) ?_ ?_).mono ?_); (exact h1.iz); (omega); (exact rfl); rintro e w5 ⟨rfl, q5⟩
  clear cx2a lx2aa lx2ab lx2ac lx2ad
  replace h := h.belw q5
  replace h1 := h1.belw q5
  replace h'1 := h'1.belw q5
  replace h3 := h3.belw q5
  replace x1a := x1a.b q5
  replace x2a := x2a.b q5
  replace x2b := x2b.b q5
  have bw5 := bw4.trans (q5.mono bw4.size)
  have lw5 := q5.size
  clear q5 bw4
  go_wp2_with fail
  go_ret
  exact ⟨rfl, bw5⟩
theorem g_text_2 (w : World) (b A n c D m e q k) (h : QZ w b A n c D m e q k) (h0 : 0 < k) (hk : k ≤ 40000000) (hd : q.den ≠ 1) :
    Calls Tryz.prog 73 #[.agg #[.bool b, .slice A n c, .slice D m e]] w (RetV w (strV (ratText q))) := by
  rw [ratText_2 hd]
  obtain ⟨u, hu⟩ : ∃ u, cmpI (q.den : Int) 1 = u := ⟨_, rfl⟩
  have hu0 : u ≠ 0 := by rw [← hu]; exact cmpI_ne (by omega)
  have e0 : ((u : Int) == 0) = false := by simp; exact hu0
  have HC := Lib.hid hu
  obtain ⟨X, hX⟩ : ∃ X, Lib.itoa q.num = X := ⟨_, rfl⟩
  obtain ⟨Y, hY⟩ : ∃ Y, Lib.itoa (q.den : Int) = Y := ⟨_, rfl⟩
  have hs := h.sz h0
  have hx1 : (⟨X.toArray⟩ : ByteArray).size ≤ 1000000000 := by show X.length ≤ _; rw [← hX]; have := itoa_le hs.1 hk (by omega); omega
  have hy1 : (⟨Y.toArray⟩ : ByteArray).size ≤ 1000000000 := by show Y.length ≤ _; rw [← hY]; have := itoa_le (z := (q.den : Int)) (by simpa using hs.2) hk (by omega); omega
  obtain ⟨N, hN⟩ : ∃ N, (⟨X.toArray⟩ : ByteArray).size = N := ⟨_, rfl⟩
  obtain ⟨M, hM⟩ : ∃ M, (⟨Y.toArray⟩ : ByteArray).size = M := ⟨_, rfl⟩
  rw [hN] at hx1
  rw [hM] at hy1
  have hc1 : (9223372036854775807 < N + 1) = False := by simp; omega
  have hc2 : (9223372036854775807 ≤ N) = False := by simp; omega
  have hc3 : (9223372036854775807 < N + 1 + M) = False := by simp; omega
  rw [hX, hY]
  have HX := Lib.hid hX
  have HY := Lib.hid hY
  clear hd hu hu0 hX hY hs
  go_enter Tryz.func73, Tryz.ntmps73
  go_wp2_with fail
  (with_reducible refine (g_parts _ b A n c D m e (q) (k) ?_ ?_ ?_).mono ?_); (exact (h.belw ((Below.refl _ _).alloc (Nat.le_refl _) _))); (omega); (omega); rintro e w1 ⟨b1, A1, n1, c1, b'1, A'1, n'1, c'1, rfl, h1, h'1, hb1⟩
  have q1 := hb1.q1
  replace h := h.belw q1
  have x1a : Blk w1 w.heap.size 24 #[.bool b, .slice A n c, .slice D m e] := (blkAt _ _ _ (by simp)).below hb1 (by simp)
  have bw1 := (brefl w).trans (q1.mono (brefl w).size)
  have lw1 := hb1.l1
  clear q1
  go_wp2_with fail
  have p2 := (((Kp.refl w1).alloc (.cells #[.bool b1, .slice A1 n1 c1] 77)).alloc (.cells #[.bool b'1, .slice A'1 n'1 c'1] 77))
  have bw2 := ((bw1.alloc (by first | omega | (simp <;> omega)) (.cells #[.bool b1, .slice A1 n1 c1] 77)).alloc (by first | omega | (simp <;> omega)) (.cells #[.bool b'1, .slice A'1 n'1 c'1] 77))
  have x2a : Blk ((w1.alloc (.cells #[.bool b1, .slice A1 n1 c1] 77)).alloc (.cells #[.bool b'1, .slice A'1 n'1 c'1] 77)) w1.heap.size 77 #[.bool b1, .slice A1 n1 c1] := ((blkAt _ _ _ (by simp)).alloc (.cells #[.bool b'1, .slice A'1 n'1 c'1] 77))
  have x2b : Blk ((w1.alloc (.cells #[.bool b1, .slice A1 n1 c1] 77)).alloc (.cells #[.bool b'1, .slice A'1 n'1 c'1] 77)) (w1.heap.size + 1) 77 #[.bool b'1, .slice A'1 n'1 c'1] := (blkAt _ _ _ (by simp))
  replace x1a := ((x1a.alloc (.cells #[.bool b1, .slice A1 n1 c1] 77)).alloc (.cells #[.bool b'1, .slice A'1 n'1 c'1] 77))
  have lw2 : w1.heap.size + 2 ≤ ((w1.alloc (.cells #[.bool b1, .slice A1 n1 c1] 77)).alloc (.cells #[.bool b'1, .slice A'1 n'1 c'1] 77)).heap.size := by simp
  generalize hE2 : ((w1.alloc (.cells #[.bool b1, .slice A1 n1 c1] 77)).alloc (.cells #[.bool b'1, .slice A'1 n'1 c'1] 77)) = w2 at p2 bw2 lw2 x2a x2b x1a ⊢
  clear hE2
  replace h := h.keep p2
  replace h1 := h1.keep p2
  replace h'1 := h'1.keep p2
  clear bw1
  obtain ⟨lx1aa, lx1ab, lx1ac, lx1ad⟩ := lts0 x1a.lt
  obtain ⟨lx2aa, lx2ab, lx2ac, lx2ad⟩ := lts0 x2a.lt
  obtain ⟨cx2ba, cx2bb⟩ := x2b.c2
  obtain ⟨lx2ba, lx2bb, lx2bc, lx2bd⟩ := lts1 x2b.lt
  go_region_held3 (fun w' => Sees w2.heap.size w2 w') (first | with_reducible exact Sees.of (Nat.le_refl _) (by assumption) | with_reducible exact Sees.of (Nat.le_refl _) (brefl _).drew | exact Sees.of (Nat.le_refl _) (below_drewN (brefl _) 1) | exact Sees.of (Nat.le_refl _) (below_drewN (by assumption) _))
    (first
      | (go_at_call 66; (with_reducible refine (g_one _).mono ?_); rintro e w3 ⟨b3, A3, n3, c3, rfl, h3, hb3⟩; replace hb3 := bnext (below_drewN (brefl _) 1) hb3; have q3 : Below w2.heap.size w2 w3 := bnext (brefl w2) hb3; replace h := h.belw hb3; replace h1 := h1.belw hb3; replace h'1 := h'1.belw hb3)
      | (go_at_call 107; (with_reducible refine (r01_cmp_v _ b'1 A'1 n'1 c'1 (((q).den : Int)) ((k)) ?_ b3 A3 n3 c3 (1) (1) ?_ u HC.out ?_).mono ?_); (exact h'1.iz); (exact h3.iz); (omega); rintro e w4 ⟨rfl, hb4⟩; have q4 : Below w2.heap.size w2 w4 := bnext q3 hb4; replace h := h.belw hb4; replace h1 := h1.belw hb4; replace h'1 := h'1.belw hb4; replace h3 := h3.belw hb4))
  have bw4 := bw2.trans (q4.mono bw2.size)
  clear lx1aa lx1ab lx1ac lx1ad lx2aa lx2ab lx2ac lx2ad cx2ba cx2bb lx2ba lx2bb lx2bc lx2bd
  replace x1a := x1a.b q4
  replace x2a := x2a.b q4
  replace x2b := x2b.b q4
  have lw4 := q4.size
  obtain ⟨lx1aa, lx1ab, lx1ac, lx1ad⟩ := lts0 x1a.lt
  have cx2a := x2a.c2
  obtain ⟨lx2aa, lx2ab, lx2ac, lx2ad⟩ := lts0 x2a.lt
  obtain ⟨cx2ba, cx2bb⟩ := x2b.c2
  obtain ⟨lx2ba, lx2bb, lx2bc, lx2bd⟩ := lts1 x2b.lt
  go_wp2_with fail
  go_region_held3 (fun w' => Sees w4.heap.size w4 w') (first | with_reducible exact Sees.of (Nat.le_refl _) (by assumption) | with_reducible exact Sees.of (Nat.le_refl _) (brefl _).drew | exact Sees.of (Nat.le_refl _) (below_drewN (brefl _) 1) | exact Sees.of (Nat.le_refl _) (below_drewN (by assumption) _))
    (first
      | (go_at_call 108; (with_reducible refine (r01_text_l _ b1 A1 n1 c1 ((q).num) ((k)) ?_ X ?_ ?_).mono ?_); (exact h1.iz); (omega); (exact HX.out); rintro e w5 ⟨rfl, hb5⟩; replace hb5 := bnext (below_drewN (brefl _) 1) hb5; have q5 : Below w4.heap.size w4 w5 := bnext (brefl w4) hb5; replace h := h.belw hb5; replace h1 := h1.belw hb5; replace h'1 := h'1.belw hb5; replace h3 := h3.belw hb5)
      | (go_at_call 108; (with_reducible refine (r01_text_l _ b'1 A'1 n'1 c'1 (((q).den : Int)) ((k)) ?_ Y ?_ ?_).mono ?_); (exact h'1.iz); (omega); (exact HY.out); rintro e w6 ⟨rfl, hb6⟩; have q6 : Below w4.heap.size w4 w6 := bnext q5 hb6; replace h := h.belw hb6; replace h1 := h1.belw hb6; replace h'1 := h'1.belw hb6; replace h3 := h3.belw hb6))
  have bw6 := bw4.trans (q6.mono bw4.size)
  clear lx1aa lx1ab lx1ac lx1ad cx2a lx2aa lx2ab lx2ac lx2ad cx2ba cx2bb lx2ba lx2bb lx2bc lx2bd
  replace x1a := x1a.b q6
  replace x2a := x2a.b q6
  replace x2b := x2b.b q6
  have lw6 := q6.size
  go_wp2_with fail
  go_ret
  refine ⟨?_, bw6⟩
  exact congrArg (fun x => Ending.returned (.string x)) (cat_slash X Y)
theorem g_text (w : World) (b A n c D m e q k) (h : QZ w b A n c D m e q k) (h0 : 0 < k) (hk : k ≤ 40000000) (T : List UInt8) (hT : ratText q = T) : Calls Tryz.prog 73 #[.agg #[.bool b, .slice A n c, .slice D m e]] w (RetV w (strV T)) := by
  subst hT
  by_cases hd : q.den = 1
  · exact g_text_1 w b A n c D m e q k h h0 hk hd
  · exact g_text_2 w b A n c D m e q k h h0 hk hd
end Go.Proofs.YtianjkiakkclgaaGreatDoor
