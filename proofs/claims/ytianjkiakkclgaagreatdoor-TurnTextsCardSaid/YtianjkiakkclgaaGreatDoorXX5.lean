/- TurnTexts: the text of a turn is read again as the turn, and what is read has this text; for every input the law returns true. The listed library variables are tied to the program text. -/
import Derived.Deep.RegionHeld3
import Derived.Deep.DrawnRows
import Derived.Test.YtianjkiakkclgaaGreatDoorCards
import Derived.Test.YtianjkiakkclgaaGreatDoorTie
import Derived.ProofKit
import Derived.WalkKit
import Derived.OpenShut
import Derived.Deep.DeepHandedRow
import Derived.Lib.LaidTab
import Derived.Shelf.Vars
import Derived.ChangeMaps5
import Derived.Test.YtianjkiakkclgaaGreatDoorXX4
set_option linter.unusedVariables false
set_option maxHeartbeats 8000000
set_option maxRecDepth 100000
/- Walks: fraction.Parse. -/
namespace Go.Proofs.YtianjkiakkclgaaGreatDoor
open Go Go.RowKit Bn
attribute [local go_sem ↓] Go.wp_at_zero Go.wp_at_succ
def Mx (w : World) : Prop := ∃ m, w.cell? ⟨0, 0, none⟩ = some (.int .i64 m)
theorem Mx.belw {w w' : World} (h : Mx w) (hb : Below w.heap.size w w') : Mx w' := by
  obtain ⟨m, hm⟩ := h
  exact ⟨m, (hb.cell (p := ⟨0, 0, none⟩) (World.block_lt_of_cell? w _ hm)).trans hm⟩
theorem cut_v (w : World) (s : List UInt8) (c : UInt8) (a b : List UInt8) (f : Bool) (hm : Mx w) (hl : s.length ≤ 65536) (hc : Lib.cut s [c] = (a, b, f)) : Calls Tryz.prog 58 #[strV s, .string ⟨#[c]⟩] w (RetV w (.tuple #[strV a, strV b, .bool f])) := by
  obtain ⟨m, hm⟩ := hm
  refine (Tryz.strings_Cut ⟨s.toArray⟩ ⟨#[c]⟩ m w (by show s.length < _; omega) hm).mono fun e w' ⟨he, n, hw⟩ => ⟨?_, hw ▸ below_drewN (brefl _) n⟩
  rw [he]
  show Ending.returned (.tuple #[strV (Lib.cut s [c]).1, strV (Lib.cut s [c]).2.1, .bool (Lib.cut s [c]).2.2]) = _
  rw [hc]
theorem valZ_lt {l : List UInt8} (h : okZ l = true) : (valZ l).natAbs < 4294967296 ^ l.length := by
  obtain ⟨h0, h1, h2⟩ := okZ_parts h
  have h3 := decVal_words h1
  have h4 : 4294967296 ^ (tailS l).length ≤ 4294967296 ^ l.length := Nat.pow_le_pow_right (by omega) (tailS_len l)
  unfold valZ
  split <;> omega
theorem valZ_ltK {l : List UInt8} {K : Nat} (h : okZ l = true) (hl : l.length ≤ K) : (valZ l).natAbs < 4294967296 ^ K := Nat.lt_of_lt_of_le (valZ_lt h) (Nat.pow_le_pow_right (by decide) hl)
theorem valZ_lt2 {l : List UInt8} (h : okZ l = true) (hl : l.length ≤ 65536) : (valZ l).natAbs < 4294967296 ^ 65536 :=
  valZ_ltK (K := 65536) h hl
theorem errV_2 : errV 2 = .iface 57 (.int .i64 2) := if_neg (by decide)
theorem errV_4 : errV 4 = .iface 57 (.int .i64 4) := if_neg (by decide)
theorem f_dec_o (w : World) (F B : List UInt8) (hFB : F.length + B.length ≤ 64) (x : Int) (q : Rat) (h : (decOk F B = true ∧ x = 0 ∧ q = decQ F B) ∨ (decOk F B = false ∧ x = 2 ∧ q = 0)) : Calls Tryz.prog 59 #[strV F, strV B] w (RetFe w (errV x) q 64) := by
  rcases h with ⟨h, rfl, rfl⟩ | ⟨h, rfl, rfl⟩
  · rw [errV_0]
    obtain ⟨h1, h2, h3, h4⟩ := decOk_parts h
    cases hm : headM F
    · exact f_dec_ok_f w F B hFB hm h1 h2 h3 h4
    · exact f_dec_ok_t w F B hFB hm h1 h2 h3 h4
  · rw [errV_2]
    rcases decOk_not h with h1 | ⟨h1, h2⟩ | ⟨h1, h2, h3⟩ | ⟨h1, h2, h3, h4⟩
    · exact f_dec_1 w F B hFB h1
    · exact f_dec_2 w F B hFB h1 (Int.sign_eq_neg_one_iff_neg.2 h2)
    · subst h3; exact f_dec_3 w F (by simpa using hFB) h1 (sign_nn h2)
    · exact f_dec_4 w F B hFB h1 (sign_nn h2) h3 h4
theorem f_dec_ev (w : World) (F B : List UInt8) (hFB : F.length + B.length ≤ 64) (x : Int) (q : Rat) (h : (decOk F B = true ∧ x = 0 ∧ q = decQ F B) ∨ (decOk F B = false ∧ x = 2 ∧ q = 0)) (ev : Value) (he : errV x = ev) : Calls Tryz.prog 59 #[strV F, strV B] w (RetFe w ev q 64) := by
  subst he; exact f_dec_o w F B hFB x q h
theorem i_parse_ev (w : World) (l : List UInt8) (x z : Int) (ev : Value) (h : ParseOut l x z) (he : errV x = ev) : Calls Tryz.prog 60 #[strV l] w (RetIe w ev z 65536) := by
  subst he; exact i_parse_o w l x z h
theorem i_parse_ok6 (w : World) (l : List UInt8) (hl : l.length ≤ 65536) (hb : okZ l = true) : Calls Tryz.prog 60 #[strV l] w (RetIe w .nilIface (valZ l) 65536) :=
  (i_parse_ok w l hl hb).mono fun _ _ r => r.mono hl
theorem i_parse_one (w : World) (l : List UInt8) : l = [49] → Calls Tryz.prog 60 #[strV l] w (RetIe w .nilIface 1 1) := by
  rintro rfl; exact i_parse_ok w [49] (by decide) (by decide)
theorem f_parse_big (w : World) (s : List UInt8) (hl : 65536 < s.length) :
  Calls Tryz.prog 31 #[strV s] w (RetFe w (.iface 57 (.int .i64 4)) 0 1) := by
 have hszs := size_v s
 have hlen : ((65536 : Int) < (s.length : Int)) = True := by simp; omega
 go_enter Tryz.func31, Tryz.ntmps31
 go_wp2_with fail
 refine bodyPost_ret (v := .tuple #[.agg #[.bool false, .slice none 0 0, .slice none 0 0], .iface 57 (.int .i64 4)]) (by simp [results, Tryz.results31, go_sem, *] <;> first | rfl | exact ⟨rfl, rfl⟩) rfl ?_
 exact ⟨_, _, _, _, _, _, _, rfl, QV.zero _ _, ((brefl w).alloc (by first | omega | (simp <;> omega)) (.cells #[.bool false, .slice none 0 0, .slice none 0 0] 24))⟩
theorem f_parse_dot1 (w : World) (s F B : List UInt8) (hmx : Mx w) (hl : s.length ≤ 65536) (hc : Lib.cut s [46] = (F, B, true)) (h64 : 64 < s.length) :
  Calls Tryz.prog 31 #[strV s] w (RetFe w (.iface 57 (.int .i64 2)) 0 64) := by
 have hszs := size_v s
 have hlen : ((65536 : Int) < (s.length : Int)) = False := by simp; omega
 have h64t : ((64 : Int) < (s.length : Int)) = True := by simp; omega
 have HC := Lib.hid hc
 clear hc
 go_enter Tryz.func31, Tryz.ntmps31
 go_wp2_with fail
 (with_reducible refine (cut_v _ (s) 46 (F) (B) true (hmx.belw ((brefl w).alloc (by first | omega | (simp <;> omega)) (.cells #[.bool false, .slice none 0 0, .slice none 0 0] 24))) (by omega) HC.out).mono ?_); rintro e w1 ⟨rfl, hb1⟩
 have q1 := ((Below.refl _ _).alloc (Nat.le_refl _) _).trans (hb1.mono (by simp))
 have x1a : Blk w1 w.heap.size 24 #[.bool false, .slice none 0 0, .slice none 0 0] := (blkAt _ _ _ (by simp)).below hb1 (by simp)
 have bw1 := (brefl w).trans (q1.mono (brefl w).size)
 have lw1 : w.heap.size + 1 ≤ w1.heap.size := by have := hb1.size; simp at this; omega
 clear q1
 obtain ⟨cx1aa, cx1ab, cx1ac⟩ := x1a.c3
 obtain ⟨fx1aa, fx1ab, fx1ac⟩ := x1a.f3
 obtain ⟨lx1aa, lx1ab, lx1ac, lx1ad⟩ := lts0 x1a.lt
 go_wp2_with fail
 refine bodyPost_ret (v := .tuple #[.agg #[.bool false, .slice none 0 0, .slice none 0 0], .iface 57 (.int .i64 2)]) (by simp [results, Tryz.results31, go_sem, *] <;> first | rfl | exact ⟨rfl, rfl⟩) rfl ?_
 exact ⟨_, _, _, _, _, _, _, rfl, QV.zero _ _, (((bw1.sc w.heap.size 0 (by omega) (.bool false)).sc w.heap.size 1 (by omega) (.slice none 0 0)).sc w.heap.size 2 (by omega) (.slice none 0 0))⟩
theorem f_parse_dot2 (w : World) (s F B : List UInt8) (hmx : Mx w) (hl : s.length ≤ 65536) (hc : Lib.cut s [46] = (F, B, true)) (h64 : s.length ≤ 64) (hFB : F.length + B.length ≤ 64) (x : Int) (q : Rat) (hx : (decOk F B = true ∧ x = 0 ∧ q = decQ F B) ∨ (decOk F B = false ∧ x = 2 ∧ q = 0)) :
  Calls Tryz.prog 31 #[strV s] w (RetFe w (errV x) q 64) := by
 have hszs := size_v s
 have hlen : ((65536 : Int) < (s.length : Int)) = False := by simp; omega
 have h64t : ((64 : Int) < (s.length : Int)) = False := by simp; omega
 have HC := Lib.hid hc
 have HX := Lib.hid hx
 clear hc hx
 obtain ⟨ev, hev⟩ : ∃ ev, errV x = ev := ⟨_, rfl⟩
 have HEV := Lib.hid hev
 rw [hev]
 clear hev
 go_enter Tryz.func31, Tryz.ntmps31
 go_wp2_with fail
 (with_reducible refine (cut_v _ (s) 46 (F) (B) true (hmx.belw ((brefl w).alloc (by first | omega | (simp <;> omega)) (.cells #[.bool false, .slice none 0 0, .slice none 0 0] 24))) (by omega) HC.out).mono ?_); rintro e w1 ⟨rfl, hb1⟩
 have q1 := ((Below.refl _ _).alloc (Nat.le_refl _) _).trans (hb1.mono (by simp))
 have x1a : Blk w1 w.heap.size 24 #[.bool false, .slice none 0 0, .slice none 0 0] := (blkAt _ _ _ (by simp)).below hb1 (by simp)
 have bw1 := (brefl w).trans (q1.mono (brefl w).size)
 have lw1 : w.heap.size + 1 ≤ w1.heap.size := by have := hb1.size; simp at this; omega
 clear q1
 go_wp2_with fail
 (with_reducible refine (f_dec_ev _ (F) (B) hFB x q HX.out ev HEV.out).mono ?_); rintro e w2 ⟨b2, A2, n2, c2, A'2, n'2, c'2, rfl, h2, q2⟩
 replace x1a := x1a.b q2
 have bw2 := bw1.trans (q2.mono bw1.size)
 have lw2 := q2.size
 clear q2 bw1
 obtain ⟨cx1aa, cx1ab, cx1ac⟩ := x1a.c3
 obtain ⟨fx1aa, fx1ab, fx1ac⟩ := x1a.f3
 obtain ⟨lx1aa, lx1ab, lx1ac, lx1ad⟩ := lts0 x1a.lt
 go_wp2_with fail
 refine bodyPost_ret (v := .tuple #[.agg #[.bool b2, .slice A2 n2 c2, .slice A'2 n'2 c'2], ev]) (by simp [results, Tryz.results31, go_sem, *] <;> first | rfl | exact ⟨rfl, rfl⟩) rfl ?_
 exact ⟨b2, A2, n2, c2, A'2, n'2, c'2, rfl, h2.keep ((((Kp.refl w2).sb w.heap.size 0 x1a.box (by decide) (.bool b2)).sb w.heap.size 1 (x1a.box.set ⟨w.heap.size, 0, none⟩ (.bool b2)) (by decide) (.slice A2 n2 c2)).sb w.heap.size 2 ((x1a.box.set ⟨w.heap.size, 0, none⟩ (.bool b2)).set ⟨w.heap.size, 1, none⟩ (.slice A2 n2 c2)) (by decide) (.slice A'2 n'2 c'2)), (((bw2.sc w.heap.size 0 (by omega) (.bool b2)).sc w.heap.size 1 (by omega) (.slice A2 n2 c2)).sc w.heap.size 2 (by omega) (.slice A'2 n'2 c'2))⟩
theorem f_parse_q1 (w : World) (s F B : List UInt8) (hmx : Mx w) (hl : s.length ≤ 65536) (hd : Lib.cut s [46] = (s, [], false)) (hc : Lib.cut s [47] = (F, B, true)) (hF6 : F.length ≤ 65536) (hB6 : B.length ≤ 65536) (h1 : okZ F = false) :
  Calls Tryz.prog 31 #[strV s] w (RetFe w (.iface 57 (.int .i64 2)) 0 1) := by
 have hszs := size_v s
 have hlen : ((65536 : Int) < (s.length : Int)) = False := by simp; omega
 have HC := Lib.hid hc
 have HD := Lib.hid hd
 clear hc hd
 have H1 := Lib.hid h1
 clear h1
 obtain ⟨x2, z2, hp2⟩ := parseOut B
 obtain ⟨ev, hev⟩ : ∃ ev, errV x2 = ev := ⟨_, rfl⟩
 have HP2 := Lib.hid (And.intro hp2 hev)
 clear hp2 hev
 go_enter Tryz.func31, Tryz.ntmps31
 go_wp2_with fail
 (with_reducible refine (cut_v _ (s) 46 (s) ([]) false (hmx.belw ((brefl w).alloc (by first | omega | (simp <;> omega)) (.cells #[.bool false, .slice none 0 0, .slice none 0 0] 24))) (by omega) HD.out).mono ?_); rintro e w1 ⟨rfl, hb1⟩
 have q1 := ((Below.refl _ _).alloc (Nat.le_refl _) _).trans (hb1.mono (by simp))
 have x1a : Blk w1 w.heap.size 24 #[.bool false, .slice none 0 0, .slice none 0 0] := (blkAt _ _ _ (by simp)).below hb1 (by simp)
 have bw1 := (brefl w).trans (q1.mono (brefl w).size)
 have lw1 : w.heap.size + 1 ≤ w1.heap.size := by have := hb1.size; simp at this; omega
 clear q1
 go_wp2_with fail
 (with_reducible refine (cut_v _ (s) 47 (F) (B) true (hmx.belw bw1) (by omega) HC.out).mono ?_); rintro e w2 ⟨rfl, q2⟩
 replace x1a := x1a.b q2
 have bw2 := bw1.trans (q2.mono bw1.size)
 have lw2 := q2.size
 clear q2 bw1
 go_wp2_with fail
 (with_reducible refine (i_parse_bad _ (F) (by omega) H1.out).mono ?_); rintro e w3 ⟨b3, A3, n3, c3, rfl, h3, q3⟩
 replace x1a := x1a.b q3
 have bw3 := bw2.trans (q3.mono bw2.size)
 have lw3 := q3.size
 clear q3 bw2
 go_wp2_with fail
 (with_reducible refine (i_parse_ev _ (B) x2 z2 ev HP2.out.1 HP2.out.2).mono ?_); rintro e w4 ⟨b4, A4, n4, c4, rfl, h4, hb4⟩
 have q4 := ((Below.refl _ _).alloc (Nat.le_refl _) _).trans (hb4.mono (by simp))
 replace h3 := h3.belw q4
 replace x1a := x1a.b q4
 have x4a : Blk w4 w3.heap.size 77 #[.bool b3, .slice A3 n3 c3] := (blkAt _ _ _ (by simp)).below hb4 (by simp)
 have bw4 := bw3.trans (q4.mono bw3.size)
 have lw4 : w3.heap.size + 1 ≤ w4.heap.size := by have := hb4.size; simp at this; omega
 clear q4 bw3
 obtain ⟨cx1aa, cx1ab, cx1ac⟩ := x1a.c3
 obtain ⟨fx1aa, fx1ab, fx1ac⟩ := x1a.f3
 obtain ⟨lx1aa, lx1ab, lx1ac, lx1ad⟩ := lts0 x1a.lt
 go_wp2_with fail
 refine bodyPost_ret (v := .tuple #[.agg #[.bool false, .slice none 0 0, .slice none 0 0], .iface 57 (.int .i64 2)]) (by simp [results, Tryz.results31, go_sem, *] <;> first | rfl | exact ⟨rfl, rfl⟩) rfl ?_
 exact ⟨_, _, _, _, _, _, _, rfl, QV.zero _ _, ((((bw4.sc w.heap.size 0 (by omega) (.bool false)).sc w.heap.size 1 (by omega) (.slice none 0 0)).sc w.heap.size 2 (by omega) (.slice none 0 0)).alloc (by first | omega | (simp <;> omega)) (.cells #[.bool b4, .slice A4 n4 c4] 77))⟩
theorem f_parse_q2 (w : World) (s F B : List UInt8) (hmx : Mx w) (hl : s.length ≤ 65536) (hd : Lib.cut s [46] = (s, [], false)) (hc : Lib.cut s [47] = (F, B, true)) (hF6 : F.length ≤ 65536) (hB6 : B.length ≤ 65536) (h1 : okZ F = true) (h2 : okZ B = false) :
  Calls Tryz.prog 31 #[strV s] w (RetFe w (.iface 57 (.int .i64 2)) 0 1) := by
 have hszs := size_v s
 have hlen : ((65536 : Int) < (s.length : Int)) = False := by simp; omega
 have HC := Lib.hid hc
 have HD := Lib.hid hd
 clear hc hd
 have H1 := Lib.hid h1
 clear h1
 have H2 := Lib.hid h2
 clear h2
 go_enter Tryz.func31, Tryz.ntmps31
 go_wp2_with fail
 (with_reducible refine (cut_v _ (s) 46 (s) ([]) false (hmx.belw ((brefl w).alloc (by first | omega | (simp <;> omega)) (.cells #[.bool false, .slice none 0 0, .slice none 0 0] 24))) (by omega) HD.out).mono ?_); rintro e w1 ⟨rfl, hb1⟩
 have q1 := ((Below.refl _ _).alloc (Nat.le_refl _) _).trans (hb1.mono (by simp))
 have x1a : Blk w1 w.heap.size 24 #[.bool false, .slice none 0 0, .slice none 0 0] := (blkAt _ _ _ (by simp)).below hb1 (by simp)
 have bw1 := (brefl w).trans (q1.mono (brefl w).size)
 have lw1 : w.heap.size + 1 ≤ w1.heap.size := by have := hb1.size; simp at this; omega
 clear q1
 go_wp2_with fail
 (with_reducible refine (cut_v _ (s) 47 (F) (B) true (hmx.belw bw1) (by omega) HC.out).mono ?_); rintro e w2 ⟨rfl, q2⟩
 replace x1a := x1a.b q2
 have bw2 := bw1.trans (q2.mono bw1.size)
 have lw2 := q2.size
 clear q2 bw1
 go_wp2_with fail
 (with_reducible refine (i_parse_ok6 _ (F) (by omega) H1.out).mono ?_); rintro e w3 ⟨b3, A3, n3, c3, rfl, h3, q3⟩
 replace x1a := x1a.b q3
 have bw3 := bw2.trans (q3.mono bw2.size)
 have lw3 := q3.size
 clear q3 bw2
 go_wp2_with fail
 (with_reducible refine (i_parse_bad _ (B) (by omega) H2.out).mono ?_); rintro e w4 ⟨b4, A4, n4, c4, rfl, h4, hb4⟩
 have q4 := ((Below.refl _ _).alloc (Nat.le_refl _) _).trans (hb4.mono (by simp))
 replace h3 := h3.belw q4
 replace x1a := x1a.b q4
 have x4a : Blk w4 w3.heap.size 77 #[.bool b3, .slice A3 n3 c3] := (blkAt _ _ _ (by simp)).below hb4 (by simp)
 have bw4 := bw3.trans (q4.mono bw3.size)
 have lw4 : w3.heap.size + 1 ≤ w4.heap.size := by have := hb4.size; simp at this; omega
 clear q4 bw3
 obtain ⟨cx1aa, cx1ab, cx1ac⟩ := x1a.c3
 obtain ⟨fx1aa, fx1ab, fx1ac⟩ := x1a.f3
 obtain ⟨lx1aa, lx1ab, lx1ac, lx1ad⟩ := lts0 x1a.lt
 go_wp2_with fail
 refine bodyPost_ret (v := .tuple #[.agg #[.bool false, .slice none 0 0, .slice none 0 0], .iface 57 (.int .i64 2)]) (by simp [results, Tryz.results31, go_sem, *] <;> first | rfl | exact ⟨rfl, rfl⟩) rfl ?_
 exact ⟨_, _, _, _, _, _, _, rfl, QV.zero _ _, ((((bw4.sc w.heap.size 0 (by omega) (.bool false)).sc w.heap.size 1 (by omega) (.slice none 0 0)).sc w.heap.size 2 (by omega) (.slice none 0 0)).alloc (by first | omega | (simp <;> omega)) (.cells #[.bool b4, .slice A4 n4 c4] 77))⟩
theorem f_parse_q3 (w : World) (s F B : List UInt8) (hmx : Mx w) (hl : s.length ≤ 65536) (hd : Lib.cut s [46] = (s, [], false)) (hc : Lib.cut s [47] = (F, B, true)) (hF6 : F.length ≤ 65536) (hB6 : B.length ≤ 65536) (h1 : okZ F = true) (h2 : okZ B = true) (h3 : (valZ B).sign ≤ 0) :
  Calls Tryz.prog 31 #[strV s] w (RetFe w (.iface 57 (.int .i64 2)) 0 1) := by
 have hszs := size_v s
 have hlen : ((65536 : Int) < (s.length : Int)) = False := by simp; omega
 have HC := Lib.hid hc
 have HD := Lib.hid hd
 clear hc hd
 have H1 := Lib.hid h1
 clear h1
 have H2 := Lib.hid h2
 clear h2
 obtain ⟨t, ht⟩ : ∃ t, (valZ B).sign = t := ⟨_, rfl⟩
 have et : (t ≤ 0) = True := by simp; rw [← ht]; exact h3
 have HT := Lib.hid ht
 clear h3 ht
 go_enter Tryz.func31, Tryz.ntmps31
 go_wp2_with fail
 (with_reducible refine (cut_v _ (s) 46 (s) ([]) false (hmx.belw ((brefl w).alloc (by first | omega | (simp <;> omega)) (.cells #[.bool false, .slice none 0 0, .slice none 0 0] 24))) (by omega) HD.out).mono ?_); rintro e w1 ⟨rfl, hb1⟩
 have q1 := ((Below.refl _ _).alloc (Nat.le_refl _) _).trans (hb1.mono (by simp))
 have x1a : Blk w1 w.heap.size 24 #[.bool false, .slice none 0 0, .slice none 0 0] := (blkAt _ _ _ (by simp)).below hb1 (by simp)
 have bw1 := (brefl w).trans (q1.mono (brefl w).size)
 have lw1 : w.heap.size + 1 ≤ w1.heap.size := by have := hb1.size; simp at this; omega
 clear q1
 go_wp2_with fail
 (with_reducible refine (cut_v _ (s) 47 (F) (B) true (hmx.belw bw1) (by omega) HC.out).mono ?_); rintro e w2 ⟨rfl, q2⟩
 replace x1a := x1a.b q2
 have bw2 := bw1.trans (q2.mono bw1.size)
 have lw2 := q2.size
 clear q2 bw1
 go_wp2_with fail
 (with_reducible refine (i_parse_ok6 _ (F) (by omega) H1.out).mono ?_); rintro e w3 ⟨b3, A3, n3, c3, rfl, h3, q3⟩
 replace x1a := x1a.b q3
 have bw3 := bw2.trans (q3.mono bw2.size)
 have lw3 := q3.size
 clear q3 bw2
 go_wp2_with fail
 (with_reducible refine (i_parse_ok6 _ (B) (by omega) H2.out).mono ?_); rintro e w4 ⟨b4, A4, n4, c4, rfl, h4, hb4⟩
 have q4 := ((Below.refl _ _).alloc (Nat.le_refl _) _).trans (hb4.mono (by simp))
 replace h3 := h3.belw q4
 replace x1a := x1a.b q4
 have x4a : Blk w4 w3.heap.size 77 #[.bool b3, .slice A3 n3 c3] := (blkAt _ _ _ (by simp)).below hb4 (by simp)
 have bw4 := bw3.trans (q4.mono bw3.size)
 have lw4 : w3.heap.size + 1 ≤ w4.heap.size := by have := hb4.size; simp at this; omega
 clear q4 bw3
 go_wp2_with fail
 (with_reducible refine (i_sign_e _ b4 A4 n4 c4 (valZ B) (65536) ?_ (t) ?_ ?_).mono ?_); (exact (h4.belw ((Below.refl _ _).alloc (Nat.le_refl _) _)).iz); (exact HT.out); (omega); rintro e w5 ⟨rfl, hb5⟩
 have q5 := ((Below.refl _ _).alloc (Nat.le_refl _) _).trans (hb5.mono (by simp))
 replace h3 := h3.belw q5
 replace h4 := h4.belw q5
 replace x1a := x1a.b q5
 replace x4a := x4a.b q5
 have x5a : Blk w5 w4.heap.size 77 #[.bool b4, .slice A4 n4 c4] := (blkAt _ _ _ (by simp)).below hb5 (by simp)
 have bw5 := bw4.trans (q5.mono bw4.size)
 have lw5 : w4.heap.size + 1 ≤ w5.heap.size := by have := hb5.size; simp at this; omega
 clear q5 bw4
 obtain ⟨cx1aa, cx1ab, cx1ac⟩ := x1a.c3
 obtain ⟨fx1aa, fx1ab, fx1ac⟩ := x1a.f3
 obtain ⟨lx1aa, lx1ab, lx1ac, lx1ad⟩ := lts0 x1a.lt
 go_wp2_with fail
 refine bodyPost_ret (v := .tuple #[.agg #[.bool false, .slice none 0 0, .slice none 0 0], .iface 57 (.int .i64 2)]) (by simp [results, Tryz.results31, go_sem, *] <;> first | rfl | exact ⟨rfl, rfl⟩) rfl ?_
 exact ⟨_, _, _, _, _, _, _, rfl, QV.zero _ _, (((bw5.sc w.heap.size 0 (by omega) (.bool false)).sc w.heap.size 1 (by omega) (.slice none 0 0)).sc w.heap.size 2 (by omega) (.slice none 0 0))⟩
theorem f_parse_q4 (w : World) (s F B : List UInt8) (hmx : Mx w) (hl : s.length ≤ 65536) (hd : Lib.cut s [46] = (s, [], false)) (hc : Lib.cut s [47] = (F, B, true)) (hF6 : F.length ≤ 65536) (hB6 : B.length ≤ 65536) (h1 : okZ F = true) (h2 : okZ B = true) (h3 : (valZ B).sign = 1) (h4 : cmpI (valZ B) 1 = 0) :
    Calls Tryz.prog 31 #[strV s] w (RetFe w (.iface 57 (.int .i64 2)) 0 65536) := by
  have hszs := size_v s
  have hlen : ((65536 : Int) < (s.length : Int)) = False := by simp; omega
  have HC := Lib.hid hc
  have HD := Lib.hid hd
  clear hc hd
  have H1 := Lib.hid h1
  clear h1
  have H2 := Lib.hid h2
  clear h2
  have H3 := Lib.hid h3
  clear h3
  have H4 := Lib.hid h4
  clear h4
  go_enter Tryz.func31, Tryz.ntmps31
  go_wp2_with fail
  (with_reducible refine (cut_v _ (s) 46 (s) ([]) false (hmx.belw ((brefl w).alloc (by first | omega | (simp <;> omega)) (.cells #[.bool false, .slice none 0 0, .slice none 0 0] 24))) (by omega) HD.out).mono ?_); rintro e w1 ⟨rfl, hb1⟩
  have q1 := ((Below.refl _ _).alloc (Nat.le_refl _) _).trans (hb1.mono (by simp))
  have x1a : Blk w1 w.heap.size 24 #[.bool false, .slice none 0 0, .slice none 0 0] := (blkAt _ _ _ (by simp)).below hb1 (by simp)
  have bw1 := (brefl w).trans (q1.mono (brefl w).size)
  have lw1 : w.heap.size + 1 ≤ w1.heap.size := by have := hb1.size; simp at this; omega
  clear q1
  go_wp2_with fail
  (with_reducible refine (cut_v _ (s) 47 (F) (B) true (hmx.belw bw1) (by omega) HC.out).mono ?_); rintro e w2 ⟨rfl, q2⟩
  replace x1a := x1a.b q2
  have bw2 := bw1.trans (q2.mono bw1.size)
  have lw2 := q2.size
  clear q2 bw1
  go_wp2_with fail
  (with_reducible refine (i_parse_ok6 _ (F) (by omega) H1.out).mono ?_); rintro e w3 ⟨b3, A3, n3, c3, rfl, h3, q3⟩
  replace x1a := x1a.b q3
  have bw3 := bw2.trans (q3.mono bw2.size)
  have lw3 := q3.size
  clear q3 bw2
  go_wp2_with fail
  (with_reducible refine (i_parse_ok6 _ (B) (by omega) H2.out).mono ?_); rintro e w4 ⟨b4, A4, n4, c4, rfl, h4, hb4⟩
  have q4 := ((Below.refl _ _).alloc (Nat.le_refl _) _).trans (hb4.mono (by simp))
  replace h3 := h3.belw q4
  replace x1a := x1a.b q4
  have x4a : Blk w4 w3.heap.size 77 #[.bool b3, .slice A3 n3 c3] := (blkAt _ _ _ (by simp)).below hb4 (by simp)
  have bw4 := bw3.trans (q4.mono bw3.size)
  have lw4 : w3.heap.size + 1 ≤ w4.heap.size := by have := hb4.size; simp at this; omega
  clear q4 bw3
  go_wp2_with fail
  (with_reducible refine (i_sign_e _ b4 A4 n4 c4 (valZ B) (65536) ?_ (1) ?_ ?_).mono ?_); (exact (h4.belw ((Below.refl _ _).alloc (Nat.le_refl _) _)).iz); (exact H3.out); (omega); rintro e w5 ⟨rfl, hb5⟩
  have q5 := ((Below.refl _ _).alloc (Nat.le_refl _) _).trans (hb5.mono (by simp))
  replace h3 := h3.belw q5
  replace h4 := h4.belw q5
  replace x1a := x1a.b q5
  replace x4a := x4a.b q5
  have x5a : Blk w5 w4.heap.size 77 #[.bool b4, .slice A4 n4 c4] := (blkAt _ _ _ (by simp)).below hb5 (by simp)
  have bw5 := bw4.trans (q5.mono bw4.size)
  have lw5 : w4.heap.size + 1 ≤ w5.heap.size := by have := hb5.size; simp at this; omega
  clear q5 bw4
  obtain ⟨cx5aa, cx5ab⟩ := x5a.c2
  obtain ⟨lx5aa, lx5ab, lx5ac, lx5ad⟩ := lts0 x5a.lt
  go_wp2_with fail
  refine wp_region_lin (B := w.heap.size) (fr := fun xf => ⟨List.toArray (strV s :: undef :: .pointer (some ⟨w.heap.size, 0, none⟩) :: .nilIface :: strV s :: strV [] :: .bool false :: strV F :: strV B :: .bool true :: .pointer (some ⟨w3.heap.size, 0, none⟩) :: .nilIface :: .pointer (some ⟨w4.heap.size, 0, none⟩) :: .nilIface :: strV s :: .int .i64 (s.length : Nat) :: .bool false :: undef :: undef :: .tuple #[strV s, strV [], .bool false] :: strV s :: .tuple #[strV s, strV [], .bool false] :: strV s :: strV [] :: .bool false :: .bool false :: undef :: undef :: undef :: undef :: undef :: undef :: undef :: undef :: undef :: undef :: .tuple #[strV F, strV B, .bool true] :: strV s :: .tuple #[strV F, strV B, .bool true] :: strV F :: strV B :: .bool true :: .bool true :: .bool false :: .tuple #[.agg #[.bool b3, .slice A3 n3 c3], .nilIface] :: strV F :: .tuple #[.agg #[.bool b3, .slice A3 n3 c3], .nilIface] :: .agg #[.bool b3, .slice A3 n3 c3] :: .nilIface :: .tuple #[.agg #[.bool b4, .slice A4 n4 c4], .nilIface] :: strV B :: .tuple #[.agg #[.bool b4, .slice A4 n4 c4], .nilIface] :: .agg #[.bool b4, .slice A4 n4 c4] :: .nilIface :: .nilIface :: .bool false :: .bool false :: .nilIface :: .bool false :: .bool false :: .bool false :: .agg #[.bool b4, .slice A4 n4 c4] :: .int .i64 1 :: .bool false :: .bool false :: undef :: undef :: xf 0 :: xf 1 :: xf 2 :: xf 3 :: xf 4 :: xf 5 :: xf 6 :: xf 7 :: xf 8 :: xf 9 :: xf 10 :: xf 11 :: xf 12 :: xf 13 :: xf 14 :: undef :: undef :: undef :: undef :: undef :: []), []⟩) (R := fun ri => List.getD ((PEq (.bool true)) :: (PEq (.bool true)) :: (PEq (.agg #[.bool b4, .slice A4 n4 c4])) :: (VI (1) (1)) :: (PEq (.int .i64 (0))) :: (PEq (.bool true)) :: (PEq (.bool true)) :: (PEq undef) :: (PEq undef) :: (PEq undef) :: (PEq undef) :: (PEq undef) :: (PEq undef) :: (PEq (.bool true)) :: (PEq (.bool true)) :: []) ri (fun _ _ => True)) (es := []) (ow := [⟨w.heap.size, 15, 0, 24, #[.bool false, .slice none 0 0, .slice none 0 0], CAny⟩, ⟨w3.heap.size, 15, 0, 77, #[.bool b3, .slice A3 n3 c3], CAny⟩, ⟨w4.heap.size, 15, 0, 77, #[.bool b4, .slice A4 n4 c4], CAny⟩]) (x0 := (fun _ => undef)) (by kernel_rfl)
    (each_of ⟨fun _ _ => rfl, fun _ _ => rfl, fun _ _ => rfl, fun _ _ => rfl, fun _ _ => rfl, fun _ _ => rfl, fun _ _ => rfl, fun _ _ => rfl, fun _ _ => rfl, fun _ _ => rfl, fun _ _ => rfl, fun _ _ => rfl, fun _ _ => rfl, fun _ _ => rfl, fun _ _ => rfl, trivial⟩) (each_of (acyc_from _ 0 (by kernel_rfl))) (AllStab.get _ ⟨stEq _, stEq _, stEq _, stI _ _, stEq _, stEq _, stEq _, stEq _, stEq _, stEq _, stEq _, stEq _, stEq _, stEq _, stEq _, trivial⟩)
    (fun _ h => nomatch h) (List.forall_mem_cons.2 ⟨scAny, List.forall_mem_cons.2 ⟨scAny, List.forall_mem_cons.2 ⟨scAny, fun _ h => nomatch h⟩⟩⟩) (fun _ h => nomatch h) bw5.size
    (List.forall_mem_cons.2 ⟨⟨x1a, by show w.heap.size ≤ w.heap.size; omega⟩, List.forall_mem_cons.2 ⟨⟨x4a, by show w.heap.size ≤ w3.heap.size; omega⟩, List.forall_mem_cons.2 ⟨⟨x5a, by show w.heap.size ≤ w4.heap.size; omega⟩, fun _ h => nomatch h⟩⟩⟩) (ownDist (by simp <;> omega))
    (each_of ⟨?_, ?_, ?_, ?_, ?_, ?_, ?_, ?_, ?_, ?_, ?_, ?_, ?_, ?_, ?_, trivial⟩) ?_
  · exact .inl ⟨by simp, by simp, fun xf wq hk hbl hd K hK => by
      (try dsimp only)
      go_simp
      exact hK.out (.bool true) _ rfl (brefl _)⟩
  · exact .inl ⟨by simp, by simp, fun xf wq hk hbl hd K hK => by
      have dq0 : xf 0 = .bool true := hd ⟨0, .data⟩ (by simp) rfl
      (try dsimp only); (try simp only [dq0])
      go_simp
      have hz := hK.out (.bool true) _ rfl (brefl _)
      simp only [dq0] at hz
      exact hz⟩
  · exact .inl ⟨by simp, by simp, fun xf wq hk hbl hd K hK => by
      have dq1 : xf 1 = .bool true := hd ⟨1, .guard⟩ (by simp) rfl
      have y : Blk wq w4.heap.size 77 #[.bool b4, .slice A4 n4 c4] := hbl _ (List.Mem.tail _ (List.Mem.tail _ (List.Mem.head _))) (by simp [Region.binds])
      obtain ⟨hcl0, hcl1⟩ := y.c2
      (try dsimp only); (try simp only [dq1])
      go_simp
      have hz := hK.out (.agg #[.bool b4, .slice A4 n4 c4]) _ rfl (brefl _)
      simp only [dq1] at hz
      exact hz⟩
  · exact .inl ⟨by simp, by simp, fun xf wq hk hbl hd K hK => by
      have dq1 : xf 1 = .bool true := hd ⟨1, .guard⟩ (by simp) rfl
      (try dsimp only); (try simp only [dq1])
      go_simp
      go_at_call 54
      (with_reducible refine (f_one _).mono ?_); rintro e wr ⟨b7, A7, n7, c7, rfl, h7, hbr⟩
      have hz := hK.out _ _ ⟨b7, A7, n7, c7, rfl, h7⟩ hbr
      simp only [dq1] at hz
      exact hz⟩
  · exact .inl ⟨by simp, by simp, fun xf wq hk hbl hd K hK => by
      have dq2 : xf 2 = .agg #[.bool b4, .slice A4 n4 c4] := hd ⟨2, .data⟩ (by simp) rfl
      obtain ⟨b7, A7, n7, c7, dq3, h7⟩ : VI (1) (1) (xf 3) wq := hd ⟨3, .data⟩ (by simp) rfl
      have dq1 : xf 1 = .bool true := hd ⟨1, .guard⟩ (by simp) rfl
      (try dsimp only); (try simp only [dq2, dq3, dq1])
      go_simp
      go_at_call 49
      (with_reducible refine (i_cmp_v2 _ b4 A4 n4 c4 (valZ B) (65536) ?_ b7 A7 n7 c7 (1) (1) ?_ (0) H4.out ?_).mono ?_); (exact (h4.keep hk).iz); (exact h7.iz); (first | omega | assumption); rintro e wr ⟨rfl, hbr⟩
      have hz := hK.out (.int .i64 (0)) _ rfl hbr
      simp only [dq2, dq3, dq1] at hz
      exact hz⟩
  · exact .inl ⟨by simp, by simp, fun xf wq hk hbl hd K hK => by
      have dq4 : xf 4 = .int .i64 (0) := hd ⟨4, .data⟩ (by simp) rfl
      have dq1 : xf 1 = .bool true := hd ⟨1, .guard⟩ (by simp) rfl
      (try dsimp only); (try simp only [dq4, dq1])
      go_simp
      have hz := hK.out (.bool true) _ rfl (brefl _)
      simp only [dq4, dq1] at hz
      exact hz⟩
  · exact .inl ⟨by simp, by simp, fun xf wq hk hbl hd K hK => by
      have dq5 : xf 5 = .bool true := hd ⟨5, .data⟩ (by simp) rfl
      have dq1 : xf 1 = .bool true := hd ⟨1, .guard⟩ (by simp) rfl
      (try dsimp only); (try simp only [dq5, dq1])
      go_simp
      have hz := hK.out (.bool true) _ rfl (brefl _)
      simp only [dq5, dq1] at hz
      exact hz⟩
  · exact .inl ⟨by simp, by simp, fun xf wq hk hbl hd K hK => by
      have dq6 : xf 6 = .bool true := hd ⟨6, .guard⟩ (by simp) rfl
      (try dsimp only); (try simp only [dq6])
      go_simp
      have hz := hK.out undef _ rfl (brefl _)
      simp only [dq6] at hz
      exact hz⟩
  · exact .inl ⟨by simp, by simp, fun xf wq hk hbl hd K hK => by
      have dq6 : xf 6 = .bool true := hd ⟨6, .guard⟩ (by simp) rfl
      (try dsimp only); (try simp only [dq6])
      go_simp
      have hz := hK.out undef _ rfl (brefl _)
      simp only [dq6] at hz
      exact hz⟩
  · exact .inl ⟨by simp, by simp, fun xf wq hk hbl hd K hK => by
      have dq6 : xf 6 = .bool true := hd ⟨6, .guard⟩ (by simp) rfl
      (try dsimp only); (try simp only [dq6])
      go_simp
      have hz := hK.out undef _ rfl (brefl _)
      simp only [dq6] at hz
      exact hz⟩
  · exact .inl ⟨by simp, by simp, fun xf wq hk hbl hd K hK => by
      have dq6 : xf 6 = .bool true := hd ⟨6, .guard⟩ (by simp) rfl
      (try dsimp only); (try simp only [dq6])
      go_simp
      have hz := hK.out undef _ rfl (brefl _)
      simp only [dq6] at hz
      exact hz⟩
  · exact .inl ⟨by simp, by simp, fun xf wq hk hbl hd K hK => by
      have dq6 : xf 6 = .bool true := hd ⟨6, .guard⟩ (by simp) rfl
      (try dsimp only); (try simp only [dq6])
      go_simp
      have hz := hK.out undef _ rfl (brefl _)
      simp only [dq6] at hz
      exact hz⟩
  · exact .inl ⟨by simp, by simp, fun xf wq hk hbl hd K hK => by
      have dq6 : xf 6 = .bool true := hd ⟨6, .guard⟩ (by simp) rfl
      (try dsimp only); (try simp only [dq6])
      go_simp
      have hz := hK.out undef _ rfl (brefl _)
      simp only [dq6] at hz
      exact hz⟩
  · exact .inl ⟨by simp, by simp, fun xf wq hk hbl hd K hK => by
      have dq6 : xf 6 = .bool true := hd ⟨6, .data⟩ (by simp) rfl
      have dq12 : xf 12 = undef := hd ⟨12, .data⟩ (by simp) rfl
      have dq1 : xf 1 = .bool true := hd ⟨1, .guard⟩ (by simp) rfl
      (try dsimp only); (try simp only [dq6, dq12, dq1])
      go_simp
      have hz := hK.out (.bool true) _ rfl (brefl _)
      simp only [dq6, dq12, dq1] at hz
      exact hz⟩
  · exact .inl ⟨by simp, by simp, fun xf wq hk hbl hd K hK => by
      have dq1 : xf 1 = .bool true := hd ⟨1, .data⟩ (by simp) rfl
      have dq13 : xf 13 = .bool true := hd ⟨13, .data⟩ (by simp) rfl
      (try dsimp only); (try simp only [dq1, dq13])
      go_simp
      have hz := hK.out (.bool true) _ rfl (brefl _)
      simp only [dq1, dq13] at hz
      exact hz⟩
  clear cx5aa cx5ab lx5aa lx5ab lx5ac lx5ad
  intro y6 w6 kq6 hbl6 lw6 how hrr hfl hds
  replace h3 := h3.keep kq6
  replace h4 := h4.keep kq6
  obtain ⟨_, z6_0, ez, _⟩ := how _ (List.Mem.head _)
  obtain rfl := ez (by simp)
  dsimp only at z6_0
  obtain ⟨_, z6_1, ez, _⟩ := how _ (List.Mem.tail _ (List.Mem.head _))
  obtain rfl := ez (by simp)
  dsimp only at z6_1
  obtain ⟨_, z6_2, ez, _⟩ := how _ (List.Mem.tail _ (List.Mem.tail _ (List.Mem.head _)))
  obtain rfl := ez (by simp)
  dsimp only at z6_2
  have ea14 : y6 14 = .bool true := hrr 14 (by simp)
  (try dsimp only)
  simp only [ea14]
  clear hrr hfl how hds ea14
  clear x1a x4a x5a
  have bw6 := bw5.trans hbl6
  clear bw5
  have cz6_0_0 : w6.cell? ⟨w.heap.size, 0, none⟩ = some (.bool false) := z6_0.cell 0
  have fz6_0_0 : w6.frozen? ⟨w.heap.size, 0, none⟩ = false := z6_0.frozen 0
  have cz6_0_1 : w6.cell? ⟨w.heap.size, 1, none⟩ = some (.slice none 0 0) := z6_0.cell 1
  have fz6_0_1 : w6.frozen? ⟨w.heap.size, 1, none⟩ = false := z6_0.frozen 1
  have cz6_0_2 : w6.cell? ⟨w.heap.size, 2, none⟩ = some (.slice none 0 0) := z6_0.cell 2
  have fz6_0_2 : w6.frozen? ⟨w.heap.size, 2, none⟩ = false := z6_0.frozen 2
  obtain ⟨lz6_0_0, lz6_0_1, lz6_0_2, lz6_0_3⟩ := lts0 z6_0.lt
  go_wp2_with fail
  refine bodyPost_ret (v := .tuple #[.agg #[.bool false, .slice none 0 0, .slice none 0 0], .iface 57 (.int .i64 2)]) (by simp [results, Tryz.results31, go_sem, *] <;> first | rfl | exact ⟨rfl, rfl⟩) rfl ?_
  exact ⟨_, _, _, _, _, _, _, rfl, QV.zero _ _, (((bw6.sc w.heap.size 0 (by omega) (.bool false)).sc w.heap.size 1 (by omega) (.slice none 0 0)).sc w.heap.size 2 (by omega) (.slice none 0 0))⟩
theorem f_parse_q5 (w : World) (s F B : List UInt8) (hmx : Mx w) (hl : s.length ≤ 65536) (hd : Lib.cut s [46] = (s, [], false)) (hc : Lib.cut s [47] = (F, B, true)) (hF6 : F.length ≤ 65536) (hB6 : B.length ≤ 65536) (h1 : okZ F = true) (h2 : okZ B = true) (h3 : (valZ B).sign = 1) (h4 : cmpI (valZ B) 1 = 1) (h5 : cmpI ((Nat.gcd (valZ F).natAbs (valZ B).natAbs : Nat) : Int) 1 = 1) :
    Calls Tryz.prog 31 #[strV s] w (RetFe w (.iface 57 (.int .i64 2)) 0 65536) := by
  have hszs := size_v s
  have hlen : ((65536 : Int) < (s.length : Int)) = False := by simp; omega
  have HC := Lib.hid hc
  have HD := Lib.hid hd
  clear hc hd
  have H1 := Lib.hid h1
  clear h1
  have H2 := Lib.hid h2
  clear h2
  have H3 := Lib.hid h3
  clear h3
  have H4 := Lib.hid h4
  clear h4
  have H5 := Lib.hid h5
  clear h5
  go_enter Tryz.func31, Tryz.ntmps31
  go_wp2_with fail
  (with_reducible refine (cut_v _ (s) 46 (s) ([]) false (hmx.belw ((brefl w).alloc (by first | omega | (simp <;> omega)) (.cells #[.bool false, .slice none 0 0, .slice none 0 0] 24))) (by omega) HD.out).mono ?_); rintro e w1 ⟨rfl, hb1⟩
  have q1 := ((Below.refl _ _).alloc (Nat.le_refl _) _).trans (hb1.mono (by simp))
  have x1a : Blk w1 w.heap.size 24 #[.bool false, .slice none 0 0, .slice none 0 0] := (blkAt _ _ _ (by simp)).below hb1 (by simp)
  have bw1 := (brefl w).trans (q1.mono (brefl w).size)
  have lw1 : w.heap.size + 1 ≤ w1.heap.size := by have := hb1.size; simp at this; omega
  clear q1
  go_wp2_with fail
  (with_reducible refine (cut_v _ (s) 47 (F) (B) true (hmx.belw bw1) (by omega) HC.out).mono ?_); rintro e w2 ⟨rfl, q2⟩
  replace x1a := x1a.b q2
  have bw2 := bw1.trans (q2.mono bw1.size)
  have lw2 := q2.size
  clear q2 bw1
  go_wp2_with fail
  (with_reducible refine (i_parse_ok6 _ (F) (by omega) H1.out).mono ?_); rintro e w3 ⟨b3, A3, n3, c3, rfl, h3, q3⟩
  replace x1a := x1a.b q3
  have bw3 := bw2.trans (q3.mono bw2.size)
  have lw3 := q3.size
  clear q3 bw2
  go_wp2_with fail
  (with_reducible refine (i_parse_ok6 _ (B) (by omega) H2.out).mono ?_); rintro e w4 ⟨b4, A4, n4, c4, rfl, h4, hb4⟩
  have q4 := ((Below.refl _ _).alloc (Nat.le_refl _) _).trans (hb4.mono (by simp))
  replace h3 := h3.belw q4
  replace x1a := x1a.b q4
  have x4a : Blk w4 w3.heap.size 77 #[.bool b3, .slice A3 n3 c3] := (blkAt _ _ _ (by simp)).below hb4 (by simp)
  have bw4 := bw3.trans (q4.mono bw3.size)
  have lw4 : w3.heap.size + 1 ≤ w4.heap.size := by have := hb4.size; simp at this; omega
  clear q4 bw3
  go_wp2_with fail
  (with_reducible refine (i_sign_e _ b4 A4 n4 c4 (valZ B) (65536) ?_ (1) ?_ ?_).mono ?_); (exact (h4.belw ((Below.refl _ _).alloc (Nat.le_refl _) _)).iz); (exact H3.out); (omega); rintro e w5 ⟨rfl, hb5⟩
  have q5 := ((Below.refl _ _).alloc (Nat.le_refl _) _).trans (hb5.mono (by simp))
  replace h3 := h3.belw q5
  replace h4 := h4.belw q5
  replace x1a := x1a.b q5
  replace x4a := x4a.b q5
  have x5a : Blk w5 w4.heap.size 77 #[.bool b4, .slice A4 n4 c4] := (blkAt _ _ _ (by simp)).below hb5 (by simp)
  have bw5 := bw4.trans (q5.mono bw4.size)
  have lw5 : w4.heap.size + 1 ≤ w5.heap.size := by have := hb5.size; simp at this; omega
  clear q5 bw4
  obtain ⟨cx4aa, cx4ab⟩ := x4a.c2
  obtain ⟨lx4aa, lx4ab, lx4ac, lx4ad⟩ := lts0 x4a.lt
  obtain ⟨cx5aa, cx5ab⟩ := x5a.c2
  obtain ⟨lx5aa, lx5ab, lx5ac, lx5ad⟩ := lts0 x5a.lt
  go_wp2_with fail
  refine wp_region_lin (B := w.heap.size) (fr := fun xf => ⟨List.toArray (strV s :: undef :: .pointer (some ⟨w.heap.size, 0, none⟩) :: .nilIface :: strV s :: strV [] :: .bool false :: strV F :: strV B :: .bool true :: .pointer (some ⟨w3.heap.size, 0, none⟩) :: .nilIface :: .pointer (some ⟨w4.heap.size, 0, none⟩) :: .nilIface :: strV s :: .int .i64 (s.length : Nat) :: .bool false :: undef :: undef :: .tuple #[strV s, strV [], .bool false] :: strV s :: .tuple #[strV s, strV [], .bool false] :: strV s :: strV [] :: .bool false :: .bool false :: undef :: undef :: undef :: undef :: undef :: undef :: undef :: undef :: undef :: undef :: .tuple #[strV F, strV B, .bool true] :: strV s :: .tuple #[strV F, strV B, .bool true] :: strV F :: strV B :: .bool true :: .bool true :: .bool false :: .tuple #[.agg #[.bool b3, .slice A3 n3 c3], .nilIface] :: strV F :: .tuple #[.agg #[.bool b3, .slice A3 n3 c3], .nilIface] :: .agg #[.bool b3, .slice A3 n3 c3] :: .nilIface :: .tuple #[.agg #[.bool b4, .slice A4 n4 c4], .nilIface] :: strV B :: .tuple #[.agg #[.bool b4, .slice A4 n4 c4], .nilIface] :: .agg #[.bool b4, .slice A4 n4 c4] :: .nilIface :: .nilIface :: .bool false :: .bool false :: .nilIface :: .bool false :: .bool false :: .bool false :: .agg #[.bool b4, .slice A4 n4 c4] :: .int .i64 1 :: .bool false :: .bool false :: undef :: undef :: xf 0 :: xf 1 :: xf 2 :: xf 3 :: xf 4 :: xf 5 :: xf 6 :: xf 7 :: xf 8 :: xf 9 :: xf 10 :: xf 11 :: xf 12 :: xf 13 :: xf 14 :: undef :: undef :: undef :: undef :: undef :: []), []⟩) (R := fun ri => List.getD ((PEq (.bool true)) :: (PEq (.bool true)) :: (PEq (.agg #[.bool b4, .slice A4 n4 c4])) :: (VI (1) (1)) :: (PEq (.int .i64 (1))) :: (PEq (.bool false)) :: (PEq (.bool false)) :: (PEq (.agg #[.bool b3, .slice A3 n3 c3])) :: (PEq (.agg #[.bool b4, .slice A4 n4 c4])) :: (VI ((Nat.gcd ((valZ F) : Int).natAbs ((valZ B) : Int).natAbs : Nat)) ((65536) + (65536))) :: (VI (1) (1)) :: (PEq (.int .i64 (1))) :: (PEq (.bool true)) :: (PEq (.bool true)) :: (PEq (.bool true)) :: []) ri (fun _ _ => True)) (es := []) (ow := [⟨w.heap.size, 15, 0, 24, #[.bool false, .slice none 0 0, .slice none 0 0], CAny⟩, ⟨w3.heap.size, 15, 0, 77, #[.bool b3, .slice A3 n3 c3], CAny⟩, ⟨w4.heap.size, 15, 0, 77, #[.bool b4, .slice A4 n4 c4], CAny⟩]) (x0 := (fun _ => undef)) (by kernel_rfl)
    (each_of ⟨fun _ _ => rfl, fun _ _ => rfl, fun _ _ => rfl, fun _ _ => rfl, fun _ _ => rfl, fun _ _ => rfl, fun _ _ => rfl, fun _ _ => rfl, fun _ _ => rfl, fun _ _ => rfl, fun _ _ => rfl, fun _ _ => rfl, fun _ _ => rfl, fun _ _ => rfl, fun _ _ => rfl, trivial⟩) (each_of (acyc_from _ 0 (by kernel_rfl))) (AllStab.get _ ⟨stEq _, stEq _, stEq _, stI _ _, stEq _, stEq _, stEq _, stEq _, stEq _, stI _ _, stI _ _, stEq _, stEq _, stEq _, stEq _, trivial⟩)
    (fun _ h => nomatch h) (List.forall_mem_cons.2 ⟨scAny, List.forall_mem_cons.2 ⟨scAny, List.forall_mem_cons.2 ⟨scAny, fun _ h => nomatch h⟩⟩⟩) (fun _ h => nomatch h) bw5.size
    (List.forall_mem_cons.2 ⟨⟨x1a, by show w.heap.size ≤ w.heap.size; omega⟩, List.forall_mem_cons.2 ⟨⟨x4a, by show w.heap.size ≤ w3.heap.size; omega⟩, List.forall_mem_cons.2 ⟨⟨x5a, by show w.heap.size ≤ w4.heap.size; omega⟩, fun _ h => nomatch h⟩⟩⟩) (ownDist (by simp <;> omega))
    (each_of ⟨?_, ?_, ?_, ?_, ?_, ?_, ?_, ?_, ?_, ?_, ?_, ?_, ?_, ?_, ?_, trivial⟩) ?_
  · exact .inl ⟨by simp, by simp, fun xf wq hk hbl hd K hK => by
      (try dsimp only)
      go_simp
      exact hK.out (.bool true) _ rfl (brefl _)⟩
  · exact .inl ⟨by simp, by simp, fun xf wq hk hbl hd K hK => by
      have dq0 : xf 0 = .bool true := hd ⟨0, .data⟩ (by simp) rfl
      (try dsimp only); (try simp only [dq0])
      go_simp
      have hz := hK.out (.bool true) _ rfl (brefl _)
      simp only [dq0] at hz
      exact hz⟩
  · exact .inl ⟨by simp, by simp, fun xf wq hk hbl hd K hK => by
      have dq1 : xf 1 = .bool true := hd ⟨1, .guard⟩ (by simp) rfl
      have y : Blk wq w4.heap.size 77 #[.bool b4, .slice A4 n4 c4] := hbl _ (List.Mem.tail _ (List.Mem.tail _ (List.Mem.head _))) (by simp [Region.binds])
      obtain ⟨hcl0, hcl1⟩ := y.c2
      (try dsimp only); (try simp only [dq1])
      go_simp
      have hz := hK.out (.agg #[.bool b4, .slice A4 n4 c4]) _ rfl (brefl _)
      simp only [dq1] at hz
      exact hz⟩
  · exact .inl ⟨by simp, by simp, fun xf wq hk hbl hd K hK => by
      have dq1 : xf 1 = .bool true := hd ⟨1, .guard⟩ (by simp) rfl
      (try dsimp only); (try simp only [dq1])
      go_simp
      go_at_call 54
      (with_reducible refine (f_one _).mono ?_); rintro e wr ⟨b7, A7, n7, c7, rfl, h7, hbr⟩
      have hz := hK.out _ _ ⟨b7, A7, n7, c7, rfl, h7⟩ hbr
      simp only [dq1] at hz
      exact hz⟩
  · exact .inl ⟨by simp, by simp, fun xf wq hk hbl hd K hK => by
      have dq2 : xf 2 = .agg #[.bool b4, .slice A4 n4 c4] := hd ⟨2, .data⟩ (by simp) rfl
      obtain ⟨b7, A7, n7, c7, dq3, h7⟩ : VI (1) (1) (xf 3) wq := hd ⟨3, .data⟩ (by simp) rfl
      have dq1 : xf 1 = .bool true := hd ⟨1, .guard⟩ (by simp) rfl
      (try dsimp only); (try simp only [dq2, dq3, dq1])
      go_simp
      go_at_call 49
      (with_reducible refine (i_cmp_v2 _ b4 A4 n4 c4 (valZ B) (65536) ?_ b7 A7 n7 c7 (1) (1) ?_ (1) H4.out ?_).mono ?_); (exact (h4.keep hk).iz); (exact h7.iz); (first | omega | assumption); rintro e wr ⟨rfl, hbr⟩
      have hz := hK.out (.int .i64 (1)) _ rfl hbr
      simp only [dq2, dq3, dq1] at hz
      exact hz⟩
  · exact .inl ⟨by simp, by simp, fun xf wq hk hbl hd K hK => by
      have dq4 : xf 4 = .int .i64 (1) := hd ⟨4, .data⟩ (by simp) rfl
      have dq1 : xf 1 = .bool true := hd ⟨1, .guard⟩ (by simp) rfl
      (try dsimp only); (try simp only [dq4, dq1])
      go_simp
      have hz := hK.out (.bool false) _ rfl (brefl _)
      simp only [dq4, dq1] at hz
      exact hz⟩
  · exact .inl ⟨by simp, by simp, fun xf wq hk hbl hd K hK => by
      have dq5 : xf 5 = .bool false := hd ⟨5, .data⟩ (by simp) rfl
      have dq1 : xf 1 = .bool true := hd ⟨1, .guard⟩ (by simp) rfl
      (try dsimp only); (try simp only [dq5, dq1])
      go_simp
      have hz := hK.out (.bool false) _ rfl (brefl _)
      simp only [dq5, dq1] at hz
      exact hz⟩
  · exact .inl ⟨by simp, by simp, fun xf wq hk hbl hd K hK => by
      have dq6 : xf 6 = .bool false := hd ⟨6, .guard⟩ (by simp) rfl
      have y : Blk wq w3.heap.size 77 #[.bool b3, .slice A3 n3 c3] := hbl _ (List.Mem.tail _ (List.Mem.head _)) (by simp [Region.binds])
      obtain ⟨hcl0, hcl1⟩ := y.c2
      (try dsimp only); (try simp only [dq6])
      go_simp
      have hz := hK.out (.agg #[.bool b3, .slice A3 n3 c3]) _ rfl (brefl _)
      simp only [dq6] at hz
      exact hz⟩
  · exact .inl ⟨by simp, by simp, fun xf wq hk hbl hd K hK => by
      have dq6 : xf 6 = .bool false := hd ⟨6, .guard⟩ (by simp) rfl
      have y : Blk wq w4.heap.size 77 #[.bool b4, .slice A4 n4 c4] := hbl _ (List.Mem.tail _ (List.Mem.tail _ (List.Mem.head _))) (by simp [Region.binds])
      obtain ⟨hcl0, hcl1⟩ := y.c2
      (try dsimp only); (try simp only [dq6])
      go_simp
      have hz := hK.out (.agg #[.bool b4, .slice A4 n4 c4]) _ rfl (brefl _)
      simp only [dq6] at hz
      exact hz⟩
  · exact .inl ⟨by simp, by simp, fun xf wq hk hbl hd K hK => by
      have dq7 : xf 7 = .agg #[.bool b3, .slice A3 n3 c3] := hd ⟨7, .data⟩ (by simp) rfl
      have dq8 : xf 8 = .agg #[.bool b4, .slice A4 n4 c4] := hd ⟨8, .data⟩ (by simp) rfl
      have dq6 : xf 6 = .bool false := hd ⟨6, .guard⟩ (by simp) rfl
      (try dsimp only); (try simp only [dq7, dq8, dq6])
      go_simp
      go_at_call 61
      (with_reducible refine (i_gcd _ b3 A3 n3 c3 (valZ F) (65536) ?_ b4 A4 n4 c4 (valZ B) (65536) ?_ ?_).mono ?_); (exact (h3.keep hk).iz); (exact (h4.keep hk).iz); (first | omega | decide | assumption); rintro e wr ⟨b9, A9, n9, c9, rfl, h9, hbr⟩
      have hz := hK.out _ _ ⟨b9, A9, n9, c9, rfl, h9⟩ hbr
      simp only [dq7, dq8, dq6] at hz
      exact hz⟩
  · exact .inl ⟨by simp, by simp, fun xf wq hk hbl hd K hK => by
      have dq6 : xf 6 = .bool false := hd ⟨6, .guard⟩ (by simp) rfl
      (try dsimp only); (try simp only [dq6])
      go_simp
      go_at_call 54
      (with_reducible refine (f_one _).mono ?_); rintro e wr ⟨b10, A10, n10, c10, rfl, h10, hbr⟩
      have hz := hK.out _ _ ⟨b10, A10, n10, c10, rfl, h10⟩ hbr
      simp only [dq6] at hz
      exact hz⟩
  · exact .inl ⟨by simp, by simp, fun xf wq hk hbl hd K hK => by
      obtain ⟨b9, A9, n9, c9, dq9, h9⟩ : VI ((Nat.gcd ((valZ F) : Int).natAbs ((valZ B) : Int).natAbs : Nat)) ((65536) + (65536)) (xf 9) wq := hd ⟨9, .data⟩ (by simp) rfl
      obtain ⟨b10, A10, n10, c10, dq10, h10⟩ : VI (1) (1) (xf 10) wq := hd ⟨10, .data⟩ (by simp) rfl
      have dq6 : xf 6 = .bool false := hd ⟨6, .guard⟩ (by simp) rfl
      (try dsimp only); (try simp only [dq9, dq10, dq6])
      go_simp
      go_at_call 49
      (with_reducible refine (i_cmp_v2 _ b9 A9 n9 c9 ((Nat.gcd ((valZ F) : Int).natAbs ((valZ B) : Int).natAbs : Nat)) ((65536) + (65536)) ?_ b10 A10 n10 c10 (1) (1) ?_ (1) H5.out ?_).mono ?_); (exact h9.iz); (exact h10.iz); (first | omega | assumption); rintro e wr ⟨rfl, hbr⟩
      have hz := hK.out (.int .i64 (1)) _ rfl hbr
      simp only [dq9, dq10, dq6] at hz
      exact hz⟩
  · exact .inl ⟨by simp, by simp, fun xf wq hk hbl hd K hK => by
      have dq11 : xf 11 = .int .i64 (1) := hd ⟨11, .data⟩ (by simp) rfl
      have dq6 : xf 6 = .bool false := hd ⟨6, .guard⟩ (by simp) rfl
      (try dsimp only); (try simp only [dq11, dq6])
      go_simp
      have hz := hK.out (.bool true) _ rfl (brefl _)
      simp only [dq11, dq6] at hz
      exact hz⟩
  · exact .inl ⟨by simp, by simp, fun xf wq hk hbl hd K hK => by
      have dq6 : xf 6 = .bool false := hd ⟨6, .data⟩ (by simp) rfl
      have dq12 : xf 12 = .bool true := hd ⟨12, .data⟩ (by simp) rfl
      have dq1 : xf 1 = .bool true := hd ⟨1, .guard⟩ (by simp) rfl
      (try dsimp only); (try simp only [dq6, dq12, dq1])
      go_simp
      have hz := hK.out (.bool true) _ rfl (brefl _)
      simp only [dq6, dq12, dq1] at hz
      exact hz⟩
  · exact .inl ⟨by simp, by simp, fun xf wq hk hbl hd K hK => by
      have dq1 : xf 1 = .bool true := hd ⟨1, .data⟩ (by simp) rfl
      have dq13 : xf 13 = .bool true := hd ⟨13, .data⟩ (by simp) rfl
      (try dsimp only); (try simp only [dq1, dq13])
      go_simp
      have hz := hK.out (.bool true) _ rfl (brefl _)
      simp only [dq1, dq13] at hz
      exact hz⟩
  clear cx4aa cx4ab lx4aa lx4ab lx4ac lx4ad cx5aa cx5ab lx5aa lx5ab lx5ac lx5ad
  intro y6 w6 kq6 hbl6 lw6 how hrr hfl hds
  replace h3 := h3.keep kq6
  replace h4 := h4.keep kq6
  obtain ⟨_, z6_0, ez, _⟩ := how _ (List.Mem.head _)
  obtain rfl := ez (by simp)
  dsimp only at z6_0
  obtain ⟨_, z6_1, ez, _⟩ := how _ (List.Mem.tail _ (List.Mem.head _))
  obtain rfl := ez (by simp)
  dsimp only at z6_1
  obtain ⟨_, z6_2, ez, _⟩ := how _ (List.Mem.tail _ (List.Mem.tail _ (List.Mem.head _)))
  obtain rfl := ez (by simp)
  dsimp only at z6_2
  have ea14 : y6 14 = .bool true := hrr 14 (by simp)
  (try dsimp only)
  simp only [ea14]
  clear hrr hfl how hds ea14
  clear x1a x4a x5a
  have bw6 := bw5.trans hbl6
  clear bw5
  have cz6_0_0 : w6.cell? ⟨w.heap.size, 0, none⟩ = some (.bool false) := z6_0.cell 0
  have fz6_0_0 : w6.frozen? ⟨w.heap.size, 0, none⟩ = false := z6_0.frozen 0
  have cz6_0_1 : w6.cell? ⟨w.heap.size, 1, none⟩ = some (.slice none 0 0) := z6_0.cell 1
  have fz6_0_1 : w6.frozen? ⟨w.heap.size, 1, none⟩ = false := z6_0.frozen 1
  have cz6_0_2 : w6.cell? ⟨w.heap.size, 2, none⟩ = some (.slice none 0 0) := z6_0.cell 2
  have fz6_0_2 : w6.frozen? ⟨w.heap.size, 2, none⟩ = false := z6_0.frozen 2
  obtain ⟨lz6_0_0, lz6_0_1, lz6_0_2, lz6_0_3⟩ := lts0 z6_0.lt
  go_wp2_with fail
  refine bodyPost_ret (v := .tuple #[.agg #[.bool false, .slice none 0 0, .slice none 0 0], .iface 57 (.int .i64 2)]) (by simp [results, Tryz.results31, go_sem, *] <;> first | rfl | exact ⟨rfl, rfl⟩) rfl ?_
  exact ⟨_, _, _, _, _, _, _, rfl, QV.zero _ _, (((bw6.sc w.heap.size 0 (by omega) (.bool false)).sc w.heap.size 1 (by omega) (.slice none 0 0)).sc w.heap.size 2 (by omega) (.slice none 0 0))⟩
theorem f_parse_q6 (w : World) (s F B : List UInt8) (hmx : Mx w) (hl : s.length ≤ 65536) (hd : Lib.cut s [46] = (s, [], false)) (hc : Lib.cut s [47] = (F, B, true)) (hF6 : F.length ≤ 65536) (hB6 : B.length ≤ 65536) (h1 : okZ F = true) (h2 : okZ B = true) (h3 : (valZ B).sign = 1) (h4 : cmpI (valZ B) 1 = 1) (h5 : cmpI ((Nat.gcd (valZ F).natAbs (valZ B).natAbs : Nat) : Int) 1 = 0) :
    Calls Tryz.prog 31 #[strV s] w (RetFe w .nilIface (Rat.divInt (valZ F) (valZ B)) 65536) := by
  have HNE := Lib.hid (show valZ B ≠ 0 by intro e; rw [e] at h3; cases h3)
  have HS := Lib.hid (Sz_divInt (valZ_lt2 h1 hF6) (valZ_lt2 h2 hB6) (by decide))
  have hszs := size_v s
  have hlen : ((65536 : Int) < (s.length : Int)) = False := by simp; omega
  have HC := Lib.hid hc
  have HD := Lib.hid hd
  clear hc hd
  have H1 := Lib.hid h1
  clear h1
  have H2 := Lib.hid h2
  clear h2
  have H3 := Lib.hid h3
  clear h3
  have H4 := Lib.hid h4
  clear h4
  have H5 := Lib.hid h5
  clear h5
  go_enter Tryz.func31, Tryz.ntmps31
  go_wp2_with fail
  (with_reducible refine (cut_v _ (s) 46 (s) ([]) false (hmx.belw ((brefl w).alloc (by first | omega | (simp <;> omega)) (.cells #[.bool false, .slice none 0 0, .slice none 0 0] 24))) (by omega) HD.out).mono ?_); rintro e w1 ⟨rfl, hb1⟩
  have q1 := ((Below.refl _ _).alloc (Nat.le_refl _) _).trans (hb1.mono (by simp))
  have x1a : Blk w1 w.heap.size 24 #[.bool false, .slice none 0 0, .slice none 0 0] := (blkAt _ _ _ (by simp)).below hb1 (by simp)
  have bw1 := (brefl w).trans (q1.mono (brefl w).size)
  have lw1 : w.heap.size + 1 ≤ w1.heap.size := by have := hb1.size; simp at this; omega
  clear q1
  go_wp2_with fail
  (with_reducible refine (cut_v _ (s) 47 (F) (B) true (hmx.belw bw1) (by omega) HC.out).mono ?_); rintro e w2 ⟨rfl, q2⟩
  replace x1a := x1a.b q2
  have bw2 := bw1.trans (q2.mono bw1.size)
  have lw2 := q2.size
  clear q2 bw1
  go_wp2_with fail
  (with_reducible refine (i_parse_ok6 _ (F) (by omega) H1.out).mono ?_); rintro e w3 ⟨b3, A3, n3, c3, rfl, h3, q3⟩
  replace x1a := x1a.b q3
  have bw3 := bw2.trans (q3.mono bw2.size)
  have lw3 := q3.size
  clear q3 bw2
  go_wp2_with fail
  (with_reducible refine (i_parse_ok6 _ (B) (by omega) H2.out).mono ?_); rintro e w4 ⟨b4, A4, n4, c4, rfl, h4, hb4⟩
  have q4 := ((Below.refl _ _).alloc (Nat.le_refl _) _).trans (hb4.mono (by simp))
  replace h3 := h3.belw q4
  replace x1a := x1a.b q4
  have x4a : Blk w4 w3.heap.size 77 #[.bool b3, .slice A3 n3 c3] := (blkAt _ _ _ (by simp)).below hb4 (by simp)
  have bw4 := bw3.trans (q4.mono bw3.size)
  have lw4 : w3.heap.size + 1 ≤ w4.heap.size := by have := hb4.size; simp at this; omega
  clear q4 bw3
  go_wp2_with fail
  (with_reducible refine (i_sign_e _ b4 A4 n4 c4 (valZ B) (65536) ?_ (1) ?_ ?_).mono ?_); (exact (h4.belw ((Below.refl _ _).alloc (Nat.le_refl _) _)).iz); (exact H3.out); (omega); rintro e w5 ⟨rfl, hb5⟩
  have q5 := ((Below.refl _ _).alloc (Nat.le_refl _) _).trans (hb5.mono (by simp))
  replace h3 := h3.belw q5
  replace h4 := h4.belw q5
  replace x1a := x1a.b q5
  replace x4a := x4a.b q5
  have x5a : Blk w5 w4.heap.size 77 #[.bool b4, .slice A4 n4 c4] := (blkAt _ _ _ (by simp)).below hb5 (by simp)
  have bw5 := bw4.trans (q5.mono bw4.size)
  have lw5 : w4.heap.size + 1 ≤ w5.heap.size := by have := hb5.size; simp at this; omega
  clear q5 bw4
  obtain ⟨cx4aa, cx4ab⟩ := x4a.c2
  obtain ⟨lx4aa, lx4ab, lx4ac, lx4ad⟩ := lts0 x4a.lt
  obtain ⟨cx5aa, cx5ab⟩ := x5a.c2
  obtain ⟨lx5aa, lx5ab, lx5ac, lx5ad⟩ := lts0 x5a.lt
  go_wp2_with fail
  refine wp_region_lin (B := w.heap.size) (fr := fun xf => ⟨List.toArray (strV s :: undef :: .pointer (some ⟨w.heap.size, 0, none⟩) :: .nilIface :: strV s :: strV [] :: .bool false :: strV F :: strV B :: .bool true :: .pointer (some ⟨w3.heap.size, 0, none⟩) :: .nilIface :: .pointer (some ⟨w4.heap.size, 0, none⟩) :: .nilIface :: strV s :: .int .i64 (s.length : Nat) :: .bool false :: undef :: undef :: .tuple #[strV s, strV [], .bool false] :: strV s :: .tuple #[strV s, strV [], .bool false] :: strV s :: strV [] :: .bool false :: .bool false :: undef :: undef :: undef :: undef :: undef :: undef :: undef :: undef :: undef :: undef :: .tuple #[strV F, strV B, .bool true] :: strV s :: .tuple #[strV F, strV B, .bool true] :: strV F :: strV B :: .bool true :: .bool true :: .bool false :: .tuple #[.agg #[.bool b3, .slice A3 n3 c3], .nilIface] :: strV F :: .tuple #[.agg #[.bool b3, .slice A3 n3 c3], .nilIface] :: .agg #[.bool b3, .slice A3 n3 c3] :: .nilIface :: .tuple #[.agg #[.bool b4, .slice A4 n4 c4], .nilIface] :: strV B :: .tuple #[.agg #[.bool b4, .slice A4 n4 c4], .nilIface] :: .agg #[.bool b4, .slice A4 n4 c4] :: .nilIface :: .nilIface :: .bool false :: .bool false :: .nilIface :: .bool false :: .bool false :: .bool false :: .agg #[.bool b4, .slice A4 n4 c4] :: .int .i64 1 :: .bool false :: .bool false :: undef :: undef :: xf 0 :: xf 1 :: xf 2 :: xf 3 :: xf 4 :: xf 5 :: xf 6 :: xf 7 :: xf 8 :: xf 9 :: xf 10 :: xf 11 :: xf 12 :: xf 13 :: xf 14 :: undef :: undef :: undef :: undef :: undef :: []), []⟩) (R := fun ri => List.getD ((PEq (.bool true)) :: (PEq (.bool true)) :: (PEq (.agg #[.bool b4, .slice A4 n4 c4])) :: (VI (1) (1)) :: (PEq (.int .i64 (1))) :: (PEq (.bool false)) :: (PEq (.bool false)) :: (PEq (.agg #[.bool b3, .slice A3 n3 c3])) :: (PEq (.agg #[.bool b4, .slice A4 n4 c4])) :: (VI ((Nat.gcd ((valZ F) : Int).natAbs ((valZ B) : Int).natAbs : Nat)) ((65536) + (65536))) :: (VI (1) (1)) :: (PEq (.int .i64 (0))) :: (PEq (.bool false)) :: (PEq (.bool false)) :: (PEq (.bool false)) :: []) ri (fun _ _ => True)) (es := []) (ow := [⟨w.heap.size, 15, 0, 24, #[.bool false, .slice none 0 0, .slice none 0 0], CAny⟩, ⟨w3.heap.size, 15, 0, 77, #[.bool b3, .slice A3 n3 c3], CAny⟩, ⟨w4.heap.size, 15, 0, 77, #[.bool b4, .slice A4 n4 c4], CAny⟩]) (x0 := (fun _ => undef)) (by kernel_rfl)
    (each_of ⟨fun _ _ => rfl, fun _ _ => rfl, fun _ _ => rfl, fun _ _ => rfl, fun _ _ => rfl, fun _ _ => rfl, fun _ _ => rfl, fun _ _ => rfl, fun _ _ => rfl, fun _ _ => rfl, fun _ _ => rfl, fun _ _ => rfl, fun _ _ => rfl, fun _ _ => rfl, fun _ _ => rfl, trivial⟩) (each_of (acyc_from _ 0 (by kernel_rfl))) (AllStab.get _ ⟨stEq _, stEq _, stEq _, stI _ _, stEq _, stEq _, stEq _, stEq _, stEq _, stI _ _, stI _ _, stEq _, stEq _, stEq _, stEq _, trivial⟩)
    (fun _ h => nomatch h) (List.forall_mem_cons.2 ⟨scAny, List.forall_mem_cons.2 ⟨scAny, List.forall_mem_cons.2 ⟨scAny, fun _ h => nomatch h⟩⟩⟩) (fun _ h => nomatch h) bw5.size
    (List.forall_mem_cons.2 ⟨⟨x1a, by show w.heap.size ≤ w.heap.size; omega⟩, List.forall_mem_cons.2 ⟨⟨x4a, by show w.heap.size ≤ w3.heap.size; omega⟩, List.forall_mem_cons.2 ⟨⟨x5a, by show w.heap.size ≤ w4.heap.size; omega⟩, fun _ h => nomatch h⟩⟩⟩) (ownDist (by simp <;> omega))
    (each_of ⟨?_, ?_, ?_, ?_, ?_, ?_, ?_, ?_, ?_, ?_, ?_, ?_, ?_, ?_, ?_, trivial⟩) ?_
  · exact .inl ⟨by simp, by simp, fun xf wq hk hbl hd K hK => by
      (try dsimp only)
      go_simp
      exact hK.out (.bool true) _ rfl (brefl _)⟩
  · exact .inl ⟨by simp, by simp, fun xf wq hk hbl hd K hK => by
      have dq0 : xf 0 = .bool true := hd ⟨0, .data⟩ (by simp) rfl
      (try dsimp only); (try simp only [dq0])
      go_simp
      have hz := hK.out (.bool true) _ rfl (brefl _)
      simp only [dq0] at hz
      exact hz⟩
  · exact .inl ⟨by simp, by simp, fun xf wq hk hbl hd K hK => by
      have dq1 : xf 1 = .bool true := hd ⟨1, .guard⟩ (by simp) rfl
      have y : Blk wq w4.heap.size 77 #[.bool b4, .slice A4 n4 c4] := hbl _ (List.Mem.tail _ (List.Mem.tail _ (List.Mem.head _))) (by simp [Region.binds])
      obtain ⟨hcl0, hcl1⟩ := y.c2
      (try dsimp only); (try simp only [dq1])
      go_simp
      have hz := hK.out (.agg #[.bool b4, .slice A4 n4 c4]) _ rfl (brefl _)
      simp only [dq1] at hz
      exact hz⟩
  · exact .inl ⟨by simp, by simp, fun xf wq hk hbl hd K hK => by
      have dq1 : xf 1 = .bool true := hd ⟨1, .guard⟩ (by simp) rfl
      (try dsimp only); (try simp only [dq1])
      go_simp
      go_at_call 54
      (with_reducible refine (f_one _).mono ?_); rintro e wr ⟨b7, A7, n7, c7, rfl, h7, hbr⟩
      have hz := hK.out _ _ ⟨b7, A7, n7, c7, rfl, h7⟩ hbr
      simp only [dq1] at hz
      exact hz⟩
  · exact .inl ⟨by simp, by simp, fun xf wq hk hbl hd K hK => by
      have dq2 : xf 2 = .agg #[.bool b4, .slice A4 n4 c4] := hd ⟨2, .data⟩ (by simp) rfl
      obtain ⟨b7, A7, n7, c7, dq3, h7⟩ : VI (1) (1) (xf 3) wq := hd ⟨3, .data⟩ (by simp) rfl
      have dq1 : xf 1 = .bool true := hd ⟨1, .guard⟩ (by simp) rfl
      (try dsimp only); (try simp only [dq2, dq3, dq1])
      go_simp
      go_at_call 49
      (with_reducible refine (i_cmp_v2 _ b4 A4 n4 c4 (valZ B) (65536) ?_ b7 A7 n7 c7 (1) (1) ?_ (1) H4.out ?_).mono ?_); (exact (h4.keep hk).iz); (exact h7.iz); (first | omega | assumption); rintro e wr ⟨rfl, hbr⟩
      have hz := hK.out (.int .i64 (1)) _ rfl hbr
      simp only [dq2, dq3, dq1] at hz
      exact hz⟩
  · exact .inl ⟨by simp, by simp, fun xf wq hk hbl hd K hK => by
      have dq4 : xf 4 = .int .i64 (1) := hd ⟨4, .data⟩ (by simp) rfl
      have dq1 : xf 1 = .bool true := hd ⟨1, .guard⟩ (by simp) rfl
      (try dsimp only); (try simp only [dq4, dq1])
      go_simp
      have hz := hK.out (.bool false) _ rfl (brefl _)
      simp only [dq4, dq1] at hz
      exact hz⟩
  · exact .inl ⟨by simp, by simp, fun xf wq hk hbl hd K hK => by
      have dq5 : xf 5 = .bool false := hd ⟨5, .data⟩ (by simp) rfl
      have dq1 : xf 1 = .bool true := hd ⟨1, .guard⟩ (by simp) rfl
      (try dsimp only); (try simp only [dq5, dq1])
      go_simp
      have hz := hK.out (.bool false) _ rfl (brefl _)
      simp only [dq5, dq1] at hz
      exact hz⟩
  · exact .inl ⟨by simp, by simp, fun xf wq hk hbl hd K hK => by
      have dq6 : xf 6 = .bool false := hd ⟨6, .guard⟩ (by simp) rfl
      have y : Blk wq w3.heap.size 77 #[.bool b3, .slice A3 n3 c3] := hbl _ (List.Mem.tail _ (List.Mem.head _)) (by simp [Region.binds])
      obtain ⟨hcl0, hcl1⟩ := y.c2
      (try dsimp only); (try simp only [dq6])
      go_simp
      have hz := hK.out (.agg #[.bool b3, .slice A3 n3 c3]) _ rfl (brefl _)
      simp only [dq6] at hz
      exact hz⟩
  · exact .inl ⟨by simp, by simp, fun xf wq hk hbl hd K hK => by
      have dq6 : xf 6 = .bool false := hd ⟨6, .guard⟩ (by simp) rfl
      have y : Blk wq w4.heap.size 77 #[.bool b4, .slice A4 n4 c4] := hbl _ (List.Mem.tail _ (List.Mem.tail _ (List.Mem.head _))) (by simp [Region.binds])
      obtain ⟨hcl0, hcl1⟩ := y.c2
      (try dsimp only); (try simp only [dq6])
      go_simp
      have hz := hK.out (.agg #[.bool b4, .slice A4 n4 c4]) _ rfl (brefl _)
      simp only [dq6] at hz
      exact hz⟩
  · exact .inl ⟨by simp, by simp, fun xf wq hk hbl hd K hK => by
      have dq7 : xf 7 = .agg #[.bool b3, .slice A3 n3 c3] := hd ⟨7, .data⟩ (by simp) rfl
      have dq8 : xf 8 = .agg #[.bool b4, .slice A4 n4 c4] := hd ⟨8, .data⟩ (by simp) rfl
      have dq6 : xf 6 = .bool false := hd ⟨6, .guard⟩ (by simp) rfl
      (try dsimp only); (try simp only [dq7, dq8, dq6])
      go_simp
      go_at_call 61
      (with_reducible refine (i_gcd _ b3 A3 n3 c3 (valZ F) (65536) ?_ b4 A4 n4 c4 (valZ B) (65536) ?_ ?_).mono ?_); (exact (h3.keep hk).iz); (exact (h4.keep hk).iz); (first | omega | decide | assumption); rintro e wr ⟨b9, A9, n9, c9, rfl, h9, hbr⟩
      have hz := hK.out _ _ ⟨b9, A9, n9, c9, rfl, h9⟩ hbr
      simp only [dq7, dq8, dq6] at hz
      exact hz⟩
  · exact .inl ⟨by simp, by simp, fun xf wq hk hbl hd K hK => by
      have dq6 : xf 6 = .bool false := hd ⟨6, .guard⟩ (by simp) rfl
      (try dsimp only); (try simp only [dq6])
      go_simp
      go_at_call 54
      (with_reducible refine (f_one _).mono ?_); rintro e wr ⟨b10, A10, n10, c10, rfl, h10, hbr⟩
      have hz := hK.out _ _ ⟨b10, A10, n10, c10, rfl, h10⟩ hbr
      simp only [dq6] at hz
      exact hz⟩
  · exact .inl ⟨by simp, by simp, fun xf wq hk hbl hd K hK => by
      obtain ⟨b9, A9, n9, c9, dq9, h9⟩ : VI ((Nat.gcd ((valZ F) : Int).natAbs ((valZ B) : Int).natAbs : Nat)) ((65536) + (65536)) (xf 9) wq := hd ⟨9, .data⟩ (by simp) rfl
      obtain ⟨b10, A10, n10, c10, dq10, h10⟩ : VI (1) (1) (xf 10) wq := hd ⟨10, .data⟩ (by simp) rfl
      have dq6 : xf 6 = .bool false := hd ⟨6, .guard⟩ (by simp) rfl
      (try dsimp only); (try simp only [dq9, dq10, dq6])
      go_simp
      go_at_call 49
      (with_reducible refine (i_cmp_v2 _ b9 A9 n9 c9 ((Nat.gcd ((valZ F) : Int).natAbs ((valZ B) : Int).natAbs : Nat)) ((65536) + (65536)) ?_ b10 A10 n10 c10 (1) (1) ?_ (0) H5.out ?_).mono ?_); (exact h9.iz); (exact h10.iz); (first | omega | assumption); rintro e wr ⟨rfl, hbr⟩
      have hz := hK.out (.int .i64 (0)) _ rfl hbr
      simp only [dq9, dq10, dq6] at hz
      exact hz⟩
  · exact .inl ⟨by simp, by simp, fun xf wq hk hbl hd K hK => by
      have dq11 : xf 11 = .int .i64 (0) := hd ⟨11, .data⟩ (by simp) rfl
      have dq6 : xf 6 = .bool false := hd ⟨6, .guard⟩ (by simp) rfl
      (try dsimp only); (try simp only [dq11, dq6])
      go_simp
      have hz := hK.out (.bool false) _ rfl (brefl _)
      simp only [dq11, dq6] at hz
      exact hz⟩
  · exact .inl ⟨by simp, by simp, fun xf wq hk hbl hd K hK => by
      have dq6 : xf 6 = .bool false := hd ⟨6, .data⟩ (by simp) rfl
      have dq12 : xf 12 = .bool false := hd ⟨12, .data⟩ (by simp) rfl
      have dq1 : xf 1 = .bool true := hd ⟨1, .guard⟩ (by simp) rfl
      (try dsimp only); (try simp only [dq6, dq12, dq1])
      go_simp
      have hz := hK.out (.bool false) _ rfl (brefl _)
      simp only [dq6, dq12, dq1] at hz
      exact hz⟩
  · exact .inl ⟨by simp, by simp, fun xf wq hk hbl hd K hK => by
      have dq1 : xf 1 = .bool true := hd ⟨1, .data⟩ (by simp) rfl
      have dq13 : xf 13 = .bool false := hd ⟨13, .data⟩ (by simp) rfl
      (try dsimp only); (try simp only [dq1, dq13])
      go_simp
      have hz := hK.out (.bool false) _ rfl (brefl _)
      simp only [dq1, dq13] at hz
      exact hz⟩
  clear cx4aa cx4ab lx4aa lx4ab lx4ac lx4ad cx5aa cx5ab lx5aa lx5ab lx5ac lx5ad
  intro y6 w6 kq6 hbl6 lw6 how hrr hfl hds
  replace h3 := h3.keep kq6
  replace h4 := h4.keep kq6
  obtain ⟨_, z6_0, ez, _⟩ := how _ (List.Mem.head _)
  obtain rfl := ez (by simp)
  dsimp only at z6_0
  obtain ⟨_, z6_1, ez, _⟩ := how _ (List.Mem.tail _ (List.Mem.head _))
  obtain rfl := ez (by simp)
  dsimp only at z6_1
  obtain ⟨_, z6_2, ez, _⟩ := how _ (List.Mem.tail _ (List.Mem.tail _ (List.Mem.head _)))
  obtain rfl := ez (by simp)
  dsimp only at z6_2
  have ea14 : y6 14 = .bool false := hrr 14 (by simp)
  (try dsimp only)
  simp only [ea14]
  clear hrr hfl how hds ea14
  clear x1a x4a x5a
  have bw6 := bw5.trans hbl6
  clear bw5
  have cz6_1_0 : w6.cell? ⟨w3.heap.size, 0, none⟩ = some (.bool b3) := z6_1.cell 0
  have cz6_1_1 : w6.cell? ⟨w3.heap.size, 1, none⟩ = some (.slice A3 n3 c3) := z6_1.cell 1
  obtain ⟨lz6_1_0, lz6_1_1, lz6_1_2, lz6_1_3⟩ := lts0 z6_1.lt
  have cz6_2_0 : w6.cell? ⟨w4.heap.size, 0, none⟩ = some (.bool b4) := z6_2.cell 0
  have cz6_2_1 : w6.cell? ⟨w4.heap.size, 1, none⟩ = some (.slice A4 n4 c4) := z6_2.cell 1
  obtain ⟨lz6_2_0, lz6_2_1, lz6_2_2, lz6_2_3⟩ := lts0 z6_2.lt
  go_wp2_with fail
  (with_reducible refine (f_form _ b3 A3 n3 c3 (valZ F) (65536) ?_ b4 A4 n4 c4 (valZ B) (65536) ?_ (Rat.divInt (valZ F) (valZ B)) 65536 ?_ ?_ ?_ ?_).mono ?_); (exact h3.iz); (exact h4.iz); (exact HNE.out); (rfl); (exact HS.out); (omega); rintro e w13 ⟨b13, A13, n13, c13, A'13, n'13, c'13, rfl, h13, q13⟩
  clear cz6_1_0 cz6_1_1 lz6_1_0 lz6_1_1 lz6_1_2 lz6_1_3 cz6_2_0 cz6_2_1 lz6_2_0 lz6_2_1 lz6_2_2 lz6_2_3
  replace h3 := h3.belw q13
  replace h4 := h4.belw q13
  replace z6_0 := z6_0.b q13
  replace z6_1 := z6_1.b q13
  replace z6_2 := z6_2.b q13
  have bw13 := bw6.trans (q13.mono bw6.size)
  have lw13 := q13.size
  clear q13 bw6
  obtain ⟨cz6_0_0, cz6_0_1, cz6_0_2⟩ := z6_0.c3
  obtain ⟨fz6_0_0, fz6_0_1, fz6_0_2⟩ := z6_0.f3
  obtain ⟨lz6_0_0, lz6_0_1, lz6_0_2, lz6_0_3⟩ := lts0 z6_0.lt
  go_wp2_with fail
  refine bodyPost_ret (v := .tuple #[.agg #[.bool b13, .slice A13 n13 c13, .slice A'13 n'13 c'13], .nilIface]) (by simp [results, Tryz.results31, go_sem, *] <;> first | rfl | exact ⟨rfl, rfl⟩) rfl ?_
  exact ⟨b13, A13, n13, c13, A'13, n'13, c'13, rfl, h13.keep ((((Kp.refl w13).sb w.heap.size 0 z6_0.box (by decide) (.bool b13)).sb w.heap.size 1 (z6_0.box.set ⟨w.heap.size, 0, none⟩ (.bool b13)) (by decide) (.slice A13 n13 c13)).sb w.heap.size 2 ((z6_0.box.set ⟨w.heap.size, 0, none⟩ (.bool b13)).set ⟨w.heap.size, 1, none⟩ (.slice A13 n13 c13)) (by decide) (.slice A'13 n'13 c'13)), (((bw13.sc w.heap.size 0 (by omega) (.bool b13)).sc w.heap.size 1 (by omega) (.slice A13 n13 c13)).sc w.heap.size 2 (by omega) (.slice A'13 n'13 c'13))⟩
theorem f_parse_w1 (w : World) (s : List UInt8) (hmx : Mx w) (hl : s.length ≤ 65536) (hd : Lib.cut s [46] = (s, [], false)) (hc : Lib.cut s [47] = (s, [], false)) (h1 : okZ s = false) :
  Calls Tryz.prog 31 #[strV s] w (RetFe w (.iface 57 (.int .i64 2)) 0 1) := by
 have hszs := size_v s
 have hlen : ((65536 : Int) < (s.length : Int)) = False := by simp; omega
 have HC := Lib.hid hc
 have HD := Lib.hid hd
 clear hc hd
 have H1 := Lib.hid h1
 clear h1
 have HO := Lib.hid (show okZ [49] = true from by decide)
 go_enter Tryz.func31, Tryz.ntmps31
 go_wp2_with fail
 (with_reducible refine (cut_v _ (s) 46 (s) ([]) false (hmx.belw ((brefl w).alloc (by first | omega | (simp <;> omega)) (.cells #[.bool false, .slice none 0 0, .slice none 0 0] 24))) (by omega) HD.out).mono ?_); rintro e w1 ⟨rfl, hb1⟩
 have q1 := ((Below.refl _ _).alloc (Nat.le_refl _) _).trans (hb1.mono (by simp))
 have x1a : Blk w1 w.heap.size 24 #[.bool false, .slice none 0 0, .slice none 0 0] := (blkAt _ _ _ (by simp)).below hb1 (by simp)
 have bw1 := (brefl w).trans (q1.mono (brefl w).size)
 have lw1 : w.heap.size + 1 ≤ w1.heap.size := by have := hb1.size; simp at this; omega
 clear q1
 go_wp2_with fail
 (with_reducible refine (cut_v _ (s) 47 (s) ([]) false (hmx.belw bw1) (by omega) HC.out).mono ?_); rintro e w2 ⟨rfl, q2⟩
 replace x1a := x1a.b q2
 have bw2 := bw1.trans (q2.mono bw1.size)
 have lw2 := q2.size
 clear q2 bw1
 go_wp2_with fail
 (with_reducible refine (i_parse_bad _ (s) (by omega) H1.out).mono ?_); rintro e w3 ⟨b3, A3, n3, c3, rfl, h3, q3⟩
 replace x1a := x1a.b q3
 have bw3 := bw2.trans (q3.mono bw2.size)
 have lw3 := q3.size
 clear q3 bw2
 go_wp2_with fail
 (with_reducible refine (i_parse_one _ ([49]) rfl).mono ?_); rintro e w4 ⟨b4, A4, n4, c4, rfl, h4, hb4⟩
 have q4 := ((Below.refl _ _).alloc (Nat.le_refl _) _).trans (hb4.mono (by simp))
 replace h3 := h3.belw q4
 replace x1a := x1a.b q4
 have x4a : Blk w4 w3.heap.size 77 #[.bool b3, .slice A3 n3 c3] := (blkAt _ _ _ (by simp)).below hb4 (by simp)
 have bw4 := bw3.trans (q4.mono bw3.size)
 have lw4 : w3.heap.size + 1 ≤ w4.heap.size := by have := hb4.size; simp at this; omega
 clear q4 bw3
 obtain ⟨cx1aa, cx1ab, cx1ac⟩ := x1a.c3
 obtain ⟨fx1aa, fx1ab, fx1ac⟩ := x1a.f3
 obtain ⟨lx1aa, lx1ab, lx1ac, lx1ad⟩ := lts0 x1a.lt
 go_wp2_with fail
 refine bodyPost_ret (v := .tuple #[.agg #[.bool false, .slice none 0 0, .slice none 0 0], .iface 57 (.int .i64 2)]) (by simp [results, Tryz.results31, go_sem, *] <;> first | rfl | exact ⟨rfl, rfl⟩) rfl ?_
 exact ⟨_, _, _, _, _, _, _, rfl, QV.zero _ _, ((((bw4.sc w.heap.size 0 (by omega) (.bool false)).sc w.heap.size 1 (by omega) (.slice none 0 0)).sc w.heap.size 2 (by omega) (.slice none 0 0)).alloc (by first | omega | (simp <;> omega)) (.cells #[.bool b4, .slice A4 n4 c4] 77))⟩
theorem f_parse_w2 (w : World) (s : List UInt8) (hmx : Mx w) (hl : s.length ≤ 65536) (hd : Lib.cut s [46] = (s, [], false)) (hc : Lib.cut s [47] = (s, [], false)) (h1 : okZ s = true) :
    Calls Tryz.prog 31 #[strV s] w (RetFe w .nilIface ((valZ s : Int) : Rat) 65536) := by
  have HS := Lib.hid (Sz_int (valZ_lt2 h1 hl) (by decide))
  have hszs := size_v s
  have hlen : ((65536 : Int) < (s.length : Int)) = False := by simp; omega
  have HC := Lib.hid hc
  have HD := Lib.hid hd
  clear hc hd
  have H1 := Lib.hid h1
  clear h1
  go_enter Tryz.func31, Tryz.ntmps31
  go_wp2_with fail
  (with_reducible refine (cut_v _ (s) 46 (s) ([]) false (hmx.belw ((brefl w).alloc (by first | omega | (simp <;> omega)) (.cells #[.bool false, .slice none 0 0, .slice none 0 0] 24))) (by omega) HD.out).mono ?_); rintro e w1 ⟨rfl, hb1⟩
  have q1 := ((Below.refl _ _).alloc (Nat.le_refl _) _).trans (hb1.mono (by simp))
  have x1a : Blk w1 w.heap.size 24 #[.bool false, .slice none 0 0, .slice none 0 0] := (blkAt _ _ _ (by simp)).below hb1 (by simp)
  have bw1 := (brefl w).trans (q1.mono (brefl w).size)
  have lw1 : w.heap.size + 1 ≤ w1.heap.size := by have := hb1.size; simp at this; omega
  clear q1
  go_wp2_with fail
  (with_reducible refine (cut_v _ (s) 47 (s) ([]) false (hmx.belw bw1) (by omega) HC.out).mono ?_); rintro e w2 ⟨rfl, q2⟩
  replace x1a := x1a.b q2
  have bw2 := bw1.trans (q2.mono bw1.size)
  have lw2 := q2.size
  clear q2 bw1
  go_wp2_with fail
  (with_reducible refine (i_parse_ok6 _ (s) (by omega) H1.out).mono ?_); rintro e w3 ⟨b3, A3, n3, c3, rfl, h3, q3⟩
  replace x1a := x1a.b q3
  have bw3 := bw2.trans (q3.mono bw2.size)
  have lw3 := q3.size
  clear q3 bw2
  go_wp2_with fail
  (with_reducible refine (i_parse_one _ ([49]) rfl).mono ?_); rintro e w4 ⟨b4, A4, n4, c4, rfl, h4, hb4⟩
  have q4 := ((Below.refl _ _).alloc (Nat.le_refl _) _).trans (hb4.mono (by simp))
  replace h3 := h3.belw q4
  replace x1a := x1a.b q4
  have x4a : Blk w4 w3.heap.size 77 #[.bool b3, .slice A3 n3 c3] := (blkAt _ _ _ (by simp)).below hb4 (by simp)
  have bw4 := bw3.trans (q4.mono bw3.size)
  have lw4 : w3.heap.size + 1 ≤ w4.heap.size := by have := hb4.size; simp at this; omega
  clear q4 bw3
  go_wp2_with fail
  (with_reducible refine (i_sign_e _ b4 A4 n4 c4 (1) (1) ?_ (1) ?_ ?_).mono ?_); (exact (h4.belw ((Below.refl _ _).alloc (Nat.le_refl _) _)).iz); (exact rfl); (omega); rintro e w5 ⟨rfl, hb5⟩
  have q5 := ((Below.refl _ _).alloc (Nat.le_refl _) _).trans (hb5.mono (by simp))
  replace h3 := h3.belw q5
  replace h4 := h4.belw q5
  replace x1a := x1a.b q5
  replace x4a := x4a.b q5
  have x5a : Blk w5 w4.heap.size 77 #[.bool b4, .slice A4 n4 c4] := (blkAt _ _ _ (by simp)).below hb5 (by simp)
  have bw5 := bw4.trans (q5.mono bw4.size)
  have lw5 : w4.heap.size + 1 ≤ w5.heap.size := by have := hb5.size; simp at this; omega
  clear q5 bw4
  go_wp2_with fail
  refine wp_region_lin (B := w.heap.size) (fr := fun xf => ⟨List.toArray (strV s :: undef :: .pointer (some ⟨w.heap.size, 0, none⟩) :: .nilIface :: strV s :: strV [] :: .bool false :: strV s :: .string ⟨[49].toArray⟩ :: .bool false :: .pointer (some ⟨w3.heap.size, 0, none⟩) :: .nilIface :: .pointer (some ⟨w4.heap.size, 0, none⟩) :: .nilIface :: strV s :: .int .i64 (s.length : Nat) :: .bool false :: undef :: undef :: .tuple #[strV s, strV [], .bool false] :: strV s :: .tuple #[strV s, strV [], .bool false] :: strV s :: strV [] :: .bool false :: .bool false :: undef :: undef :: undef :: undef :: undef :: undef :: undef :: undef :: undef :: undef :: .tuple #[strV s, strV [], .bool false] :: strV s :: .tuple #[strV s, strV [], .bool false] :: strV s :: strV [] :: .bool false :: .bool false :: .bool true :: .tuple #[.agg #[.bool b3, .slice A3 n3 c3], .nilIface] :: strV s :: .tuple #[.agg #[.bool b3, .slice A3 n3 c3], .nilIface] :: .agg #[.bool b3, .slice A3 n3 c3] :: .nilIface :: .tuple #[.agg #[.bool b4, .slice A4 n4 c4], .nilIface] :: .string ⟨[49].toArray⟩ :: .tuple #[.agg #[.bool b4, .slice A4 n4 c4], .nilIface] :: .agg #[.bool b4, .slice A4 n4 c4] :: .nilIface :: .nilIface :: .bool false :: .bool false :: .nilIface :: .bool false :: .bool false :: .bool false :: .agg #[.bool b4, .slice A4 n4 c4] :: .int .i64 1 :: .bool false :: .bool false :: undef :: undef :: xf 0 :: xf 1 :: xf 2 :: xf 3 :: xf 4 :: xf 5 :: xf 6 :: xf 7 :: xf 8 :: xf 9 :: xf 10 :: xf 11 :: xf 12 :: xf 13 :: xf 14 :: undef :: undef :: undef :: undef :: undef :: []), []⟩) (R := fun ri => List.getD ((PEq (.bool false)) :: (PEq (.bool false)) :: (PEq undef) :: (PEq undef) :: (PEq undef) :: (PEq undef) :: (PEq undef) :: (PEq undef) :: (PEq undef) :: (PEq undef) :: (PEq undef) :: (PEq undef) :: (PEq undef) :: (PEq undef) :: (PEq (.bool false)) :: []) ri (fun _ _ => True)) (es := []) (ow := [⟨w.heap.size, 15, 0, 24, #[.bool false, .slice none 0 0, .slice none 0 0], CAny⟩, ⟨w3.heap.size, 15, 0, 77, #[.bool b3, .slice A3 n3 c3], CAny⟩, ⟨w4.heap.size, 15, 0, 77, #[.bool b4, .slice A4 n4 c4], CAny⟩]) (x0 := (fun _ => undef)) (by kernel_rfl)
    (each_of ⟨fun _ _ => rfl, fun _ _ => rfl, fun _ _ => rfl, fun _ _ => rfl, fun _ _ => rfl, fun _ _ => rfl, fun _ _ => rfl, fun _ _ => rfl, fun _ _ => rfl, fun _ _ => rfl, fun _ _ => rfl, fun _ _ => rfl, fun _ _ => rfl, fun _ _ => rfl, fun _ _ => rfl, trivial⟩) (each_of (acyc_from _ 0 (by kernel_rfl))) (AllStab.get _ ⟨stEq _, stEq _, stEq _, stEq _, stEq _, stEq _, stEq _, stEq _, stEq _, stEq _, stEq _, stEq _, stEq _, stEq _, stEq _, trivial⟩)
    (fun _ h => nomatch h) (List.forall_mem_cons.2 ⟨scAny, List.forall_mem_cons.2 ⟨scAny, List.forall_mem_cons.2 ⟨scAny, fun _ h => nomatch h⟩⟩⟩) (fun _ h => nomatch h) bw5.size
    (List.forall_mem_cons.2 ⟨⟨x1a, by show w.heap.size ≤ w.heap.size; omega⟩, List.forall_mem_cons.2 ⟨⟨x4a, by show w.heap.size ≤ w3.heap.size; omega⟩, List.forall_mem_cons.2 ⟨⟨x5a, by show w.heap.size ≤ w4.heap.size; omega⟩, fun _ h => nomatch h⟩⟩⟩) (ownDist (by simp <;> omega))
    (each_of ⟨?_, ?_, ?_, ?_, ?_, ?_, ?_, ?_, ?_, ?_, ?_, ?_, ?_, ?_, ?_, trivial⟩) ?_
  · exact .inl ⟨by simp, by simp, fun xf wq hk hbl hd K hK => by
      (try dsimp only)
      go_simp
      exact hK.out (.bool false) _ rfl (brefl _)⟩
  · exact .inl ⟨by simp, by simp, fun xf wq hk hbl hd K hK => by
      have dq0 : xf 0 = .bool false := hd ⟨0, .data⟩ (by simp) rfl
      (try dsimp only); (try simp only [dq0])
      go_simp
      have hz := hK.out (.bool false) _ rfl (brefl _)
      simp only [dq0] at hz
      exact hz⟩
  · exact .inl ⟨by simp, by simp, fun xf wq hk hbl hd K hK => by
      have dq1 : xf 1 = .bool false := hd ⟨1, .guard⟩ (by simp) rfl
      (try dsimp only); (try simp only [dq1])
      go_simp
      have hz := hK.out undef _ rfl (brefl _)
      simp only [dq1] at hz
      exact hz⟩
  · exact .inl ⟨by simp, by simp, fun xf wq hk hbl hd K hK => by
      have dq1 : xf 1 = .bool false := hd ⟨1, .guard⟩ (by simp) rfl
      (try dsimp only); (try simp only [dq1])
      go_simp
      have hz := hK.out undef _ rfl (brefl _)
      simp only [dq1] at hz
      exact hz⟩
  · exact .inl ⟨by simp, by simp, fun xf wq hk hbl hd K hK => by
      have dq1 : xf 1 = .bool false := hd ⟨1, .guard⟩ (by simp) rfl
      (try dsimp only); (try simp only [dq1])
      go_simp
      have hz := hK.out undef _ rfl (brefl _)
      simp only [dq1] at hz
      exact hz⟩
  · exact .inl ⟨by simp, by simp, fun xf wq hk hbl hd K hK => by
      have dq1 : xf 1 = .bool false := hd ⟨1, .guard⟩ (by simp) rfl
      (try dsimp only); (try simp only [dq1])
      go_simp
      have hz := hK.out undef _ rfl (brefl _)
      simp only [dq1] at hz
      exact hz⟩
  · exact .inl ⟨by simp, by simp, fun xf wq hk hbl hd K hK => by
      have dq1 : xf 1 = .bool false := hd ⟨1, .guard⟩ (by simp) rfl
      (try dsimp only); (try simp only [dq1])
      go_simp
      have hz := hK.out undef _ rfl (brefl _)
      simp only [dq1] at hz
      exact hz⟩
  · exact .inl ⟨by simp, by simp, fun xf wq hk hbl hd K hK => by
      have dq6 : xf 6 = undef := hd ⟨6, .guard⟩ (by simp) rfl
      (try dsimp only); (try simp only [dq6])
      go_simp
      have hz := hK.out undef _ rfl (brefl _)
      simp only [dq6] at hz
      exact hz⟩
  · exact .inl ⟨by simp, by simp, fun xf wq hk hbl hd K hK => by
      have dq6 : xf 6 = undef := hd ⟨6, .guard⟩ (by simp) rfl
      (try dsimp only); (try simp only [dq6])
      go_simp
      have hz := hK.out undef _ rfl (brefl _)
      simp only [dq6] at hz
      exact hz⟩
  · exact .inl ⟨by simp, by simp, fun xf wq hk hbl hd K hK => by
      have dq6 : xf 6 = undef := hd ⟨6, .guard⟩ (by simp) rfl
      (try dsimp only); (try simp only [dq6])
      go_simp
      have hz := hK.out undef _ rfl (brefl _)
      simp only [dq6] at hz
      exact hz⟩
  · exact .inl ⟨by simp, by simp, fun xf wq hk hbl hd K hK => by
      have dq6 : xf 6 = undef := hd ⟨6, .guard⟩ (by simp) rfl
      (try dsimp only); (try simp only [dq6])
      go_simp
      have hz := hK.out undef _ rfl (brefl _)
      simp only [dq6] at hz
      exact hz⟩
  · exact .inl ⟨by simp, by simp, fun xf wq hk hbl hd K hK => by
      have dq6 : xf 6 = undef := hd ⟨6, .guard⟩ (by simp) rfl
      (try dsimp only); (try simp only [dq6])
      go_simp
      have hz := hK.out undef _ rfl (brefl _)
      simp only [dq6] at hz
      exact hz⟩
  · exact .inl ⟨by simp, by simp, fun xf wq hk hbl hd K hK => by
      have dq6 : xf 6 = undef := hd ⟨6, .guard⟩ (by simp) rfl
      (try dsimp only); (try simp only [dq6])
      go_simp
      have hz := hK.out undef _ rfl (brefl _)
      simp only [dq6] at hz
      exact hz⟩
  · exact .inl ⟨by simp, by simp, fun xf wq hk hbl hd K hK => by
      have dq1 : xf 1 = .bool false := hd ⟨1, .guard⟩ (by simp) rfl
      (try dsimp only); (try simp only [dq1])
      go_simp
      have hz := hK.out undef _ rfl (brefl _)
      simp only [dq1] at hz
      exact hz⟩
  · exact .inl ⟨by simp, by simp, fun xf wq hk hbl hd K hK => by
      have dq1 : xf 1 = .bool false := hd ⟨1, .data⟩ (by simp) rfl
      have dq13 : xf 13 = undef := hd ⟨13, .data⟩ (by simp) rfl
      (try dsimp only); (try simp only [dq1, dq13])
      go_simp
      have hz := hK.out (.bool false) _ rfl (brefl _)
      simp only [dq1, dq13] at hz
      exact hz⟩
  intro y6 w6 kq6 hbl6 lw6 how hrr hfl hds
  replace h3 := h3.keep kq6
  replace h4 := h4.keep kq6
  obtain ⟨_, z6_0, ez, _⟩ := how _ (List.Mem.head _)
  obtain rfl := ez (by simp)
  dsimp only at z6_0
  obtain ⟨_, z6_1, ez, _⟩ := how _ (List.Mem.tail _ (List.Mem.head _))
  obtain rfl := ez (by simp)
  dsimp only at z6_1
  obtain ⟨_, z6_2, ez, _⟩ := how _ (List.Mem.tail _ (List.Mem.tail _ (List.Mem.head _)))
  obtain rfl := ez (by simp)
  dsimp only at z6_2
  have ea14 : y6 14 = .bool false := hrr 14 (by simp)
  (try dsimp only)
  simp only [ea14]
  clear hrr hfl how hds ea14
  clear x1a x4a x5a
  have bw6 := bw5.trans hbl6
  clear bw5
  obtain ⟨cz6_1_0, cz6_1_1⟩ := z6_1.c2
  obtain ⟨lz6_1_0, lz6_1_1, lz6_1_2, lz6_1_3⟩ := lts0 z6_1.lt
  obtain ⟨cz6_2_0, cz6_2_1⟩ := z6_2.c2
  obtain ⟨lz6_2_0, lz6_2_1, lz6_2_2, lz6_2_3⟩ := lts0 z6_2.lt
  go_wp2_with fail
  (with_reducible refine (f_form _ b3 A3 n3 c3 (valZ s) (65536) ?_ b4 A4 n4 c4 (1) (1) ?_ ((valZ s : Int) : Rat) 65536 ?_ ?_ ?_ ?_).mono ?_); (exact h3.iz); (exact h4.iz); (decide); (exact int_q _); (exact HS.out); (omega); rintro e w8 ⟨b8, A8, n8, c8, A'8, n'8, c'8, rfl, h8, q8⟩
  clear cz6_1_0 cz6_1_1 lz6_1_0 lz6_1_1 lz6_1_2 lz6_1_3 cz6_2_0 cz6_2_1 lz6_2_0 lz6_2_1 lz6_2_2 lz6_2_3
  replace h3 := h3.belw q8
  replace h4 := h4.belw q8
  replace z6_0 := z6_0.b q8
  replace z6_1 := z6_1.b q8
  replace z6_2 := z6_2.b q8
  have bw8 := bw6.trans (q8.mono bw6.size)
  have lw8 := q8.size
  clear q8 bw6
  obtain ⟨cz6_0_0, cz6_0_1, cz6_0_2⟩ := z6_0.c3
  obtain ⟨fz6_0_0, fz6_0_1, fz6_0_2⟩ := z6_0.f3
  obtain ⟨lz6_0_0, lz6_0_1, lz6_0_2, lz6_0_3⟩ := lts0 z6_0.lt
  go_wp2_with fail
  refine bodyPost_ret (v := .tuple #[.agg #[.bool b8, .slice A8 n8 c8, .slice A'8 n'8 c'8], .nilIface]) (by simp [results, Tryz.results31, go_sem, *] <;> first | rfl | exact ⟨rfl, rfl⟩) rfl ?_
  exact ⟨b8, A8, n8, c8, A'8, n'8, c'8, rfl, h8.keep ((((Kp.refl w8).sb w.heap.size 0 z6_0.box (by decide) (.bool b8)).sb w.heap.size 1 (z6_0.box.set ⟨w.heap.size, 0, none⟩ (.bool b8)) (by decide) (.slice A8 n8 c8)).sb w.heap.size 2 ((z6_0.box.set ⟨w.heap.size, 0, none⟩ (.bool b8)).set ⟨w.heap.size, 1, none⟩ (.slice A8 n8 c8)) (by decide) (.slice A'8 n'8 c'8)), (((bw8.sc w.heap.size 0 (by omega) (.bool b8)).sc w.heap.size 1 (by omega) (.slice A8 n8 c8)).sc w.heap.size 2 (by omega) (.slice A'8 n'8 c'8))⟩
end Go.Proofs.YtianjkiakkclgaaGreatDoor

/- fraction.Parse by what a text gives. -/
namespace Go.Proofs.YtianjkiakkclgaaGreatDoor
open Go Go.RowKit Bn
attribute [local go_sem ↓] Go.wp_at_zero Go.wp_at_succ
theorem f_parse_o (w : World) (s : List UInt8) (x : Int) (q : Rat) (hmx : Mx w) (h : FracOut s x q) : Calls Tryz.prog 31 #[strV s] w (RetFe w (errV x) q 65536) := by
  have mono : ∀ {v : Value} {q : Rat} {k : Nat} {e : Ending} {w' : World}, k ≤ 65536 → RetFe w v q k e w' → RetFe w v q 65536 e w' := by
    rintro v q k e w' hk ⟨b, A, n, c, D, m, d, he, hv, hb⟩
    exact ⟨b, A, n, c, D, m, d, he, hv.mono hk, hb⟩
  rcases h with ⟨h, rfl, rfl⟩ | ⟨F, B, hl, hs, hF, h64, h, rfl, rfl⟩ | ⟨F, B, hl, hs, hF, h, rfl, rfl⟩ | ⟨F, B, hl, hd, hs, hF, h, rfl, rfl⟩ | ⟨F, B, hl, hd, hs, hF, h, rfl, rfl⟩ | ⟨hl, hd, hs, h, rfl, rfl⟩ | ⟨hl, hd, hs, h, rfl, rfl⟩
  · rw [errV_4]; exact (f_parse_big w s h).mono fun _ _ r => mono (by decide) r
  · have hc : Lib.cut s [46] = (F, B, true) := by rw [hs]; exact cut_at hF
    have hFB : F.length + B.length ≤ 64 := by rw [hs] at h64; simp at h64; omega
    exact (f_parse_dot2 w s F B hmx hl hc h64 hFB 0 _ (.inl ⟨h, rfl, rfl⟩)).mono fun _ _ r => mono (by decide) r
  · have hc : Lib.cut s [46] = (F, B, true) := by rw [hs]; exact cut_at hF
    by_cases h64 : 64 < s.length
    · rw [errV_2]; exact (f_parse_dot1 w s F B hmx hl hc h64).mono fun _ _ r => mono (by decide) r
    · have h := h.resolve_left h64
      have hFB : F.length + B.length ≤ 64 := by rw [hs] at h64; simp at h64; omega
      exact (f_parse_dot2 w s F B hmx hl hc (by omega) hFB 2 _ (.inr ⟨h, rfl, rfl⟩)).mono fun _ _ r => mono (by decide) r
  · have hd2 := cut_no hd
    have hc : Lib.cut s [47] = (F, B, true) := by rw [hs]; exact cut_at hF
    have hF6 : F.length ≤ 65536 := by rw [hs] at hl; simp at hl; omega
    have hB6 : B.length ≤ 65536 := by rw [hs] at hl; simp at hl; omega
    obtain ⟨h1, h2, h3, h4, h5⟩ := quoOk_parts h
    rw [errV_0]
    refine f_parse_q6 w s F B hmx hl hd2 hc hF6 hB6 h1 h2 (Int.sign_eq_one_of_pos h3) ?_ ?_
    · unfold cmpI; rw [if_neg (by omega), if_neg (by omega)]
    · rw [h5]; rfl
  · have hd2 := cut_no hd
    have hc : Lib.cut s [47] = (F, B, true) := by rw [hs]; exact cut_at hF
    have hF6 : F.length ≤ 65536 := by rw [hs] at hl; simp at hl; omega
    have hB6 : B.length ≤ 65536 := by rw [hs] at hl; simp at hl; omega
    rw [errV_2]
    rcases quoOk_not h with h1 | ⟨h1, h2⟩ | ⟨h1, h2, h3⟩ | ⟨h1, h2, h3, h4⟩ | ⟨h1, h2, h3, h4, h5⟩
    · exact (f_parse_q1 w s F B hmx hl hd2 hc hF6 hB6 h1).mono fun _ _ r => mono (by decide) r
    · exact (f_parse_q2 w s F B hmx hl hd2 hc hF6 hB6 h1 h2).mono fun _ _ r => mono (by decide) r
    · refine (f_parse_q3 w s F B hmx hl hd2 hc hF6 hB6 h1 h2 ?_).mono fun _ _ r => mono (by decide) r
      rcases sign3 (valZ B) with e | e | e
      · rw [e]; decide
      · have := Int.sign_eq_one_iff_pos.1 e; omega
      · rw [e]; decide
    · exact f_parse_q4 w s F B hmx hl hd2 hc hF6 hB6 h1 h2 (Int.sign_eq_one_of_pos h3) (by rw [h4]; rfl)
    · have hg : 0 < Nat.gcd (valZ F).natAbs (valZ B).natAbs := Nat.gcd_pos_of_pos_right _ (by omega)
      refine f_parse_q5 w s F B hmx hl hd2 hc hF6 hB6 h1 h2 (Int.sign_eq_one_of_pos h3) ?_ ?_
      · unfold cmpI; rw [if_neg (by omega), if_neg (by omega)]
      · unfold cmpI; rw [if_neg (by omega), if_neg (by omega)]
  · rw [errV_0]; exact f_parse_w2 w s hmx hl (cut_no hd) (cut_no hs) h
  · rw [errV_2]; exact (f_parse_w1 w s hmx hl (cut_no hd) (cut_no hs) h).mono fun _ _ r => mono (by decide) r
end Go.Proofs.YtianjkiakkclgaaGreatDoor

/- Walks: the texts of fractions. -/
namespace Go.Proofs.YtianjkiakkclgaaGreatDoor
open Go Go.RowKit Bn
attribute [local go_sem ↓] Go.wp_at_zero Go.wp_at_succ
theorem itoa_le {z : Int} {k K : Nat} (h : z.natAbs < 4294967296 ^ k) (hk : k ≤ K) (h0 : 0 < K) : (Lib.itoa z).length ≤ 10 * K + 1 := by
  have h2 : Lib.nDigits z.natAbs ≤ 10 * K := nDig_words' hk h0 h
  rw [itoa_abs, List.length_append, Lib.decDigits_length]
  split <;> simp <;> omega
theorem cat_slash (X Y : List UInt8) : ((⟨X.toArray⟩ : ByteArray) ++ ⟨#[47]⟩) ++ ⟨Y.toArray⟩ = ⟨(X ++ 47 :: Y).toArray⟩ := by
  rw [show (⟨#[47]⟩ : ByteArray) = ⟨[47].toArray⟩ from rfl, cat_v, cat_v, List.append_assoc]; rfl
theorem ratText_1 {q : Rat} (h : q.den = 1) : ratText q = Lib.itoa q.num := if_pos h
theorem ratText_2 {q : Rat} (h : q.den ≠ 1) : ratText q = Lib.itoa q.num ++ 47 :: Lib.itoa (q.den : Int) := if_neg h
theorem cmpI_ne {x y : Int} (h : x ≠ y) : cmpI x y ≠ 0 := by
  unfold cmpI; (repeat' split) <;> omega
theorem cmpI_one : cmpI 1 1 = 0 := by decide
theorem f_text_1 (w : World) (b : Bool) (A : Option Addr) (n c : Nat) (D : Option Addr) (m e : Nat) (q : Rat) (k : Nat) (h : QZ w b A n c D m e q k) (h0 : 0 < k) (hk : k ≤ 40000000) (htab : Tab w) (hd : q.den = 1) :
    Calls Tryz.prog 42 #[.agg #[.bool b, .slice A n c, .slice D m e]] w (RetV w (strV (ratText q))) := by
  rw [ratText_1 hd]
  have HC := Lib.hid (show cmpI (q.den : Int) 1 = 0 by rw [hd]; exact cmpI_one)
  clear hd
  go_enter Tryz.func42, Tryz.ntmps42
  go_wp2_with fail
  (with_reducible refine (f_parts _ b A n c D m e (q) (k) ?_ ?_ ?_).mono ?_); (exact (h.belw ((Below.refl _ _).alloc (Nat.le_refl _) _))); (first | omega | decide | assumption); (first | omega | decide | assumption); rintro e w1 ⟨b1, A1, n1, c1, b'1, A'1, n'1, c'1, rfl, h1, h'1, hb1⟩
  have q1 := ((Below.refl _ _).alloc (Nat.le_refl _) _).trans (hb1.mono (by simp))
  replace h := h.belw q1
  have x1a : Blk w1 w.heap.size 24 #[.bool b, .slice A n c, .slice D m e] := (blkAt _ _ _ (by simp)).below hb1 (by simp)
  have bw1 := (brefl w).trans (q1.mono (brefl w).size)
  have lw1 : w.heap.size + 1 ≤ w1.heap.size := by have := hb1.size; simp at this; omega
  clear q1
  go_wp2_with fail
  have p2 := (((Kp.refl w1).alloc (.cells #[.bool b1, .slice A1 n1 c1] 77)).alloc (.cells #[.bool b'1, .slice A'1 n'1 c'1] 77))
  have bw2 := ((bw1.alloc (by first | omega | (simp <;> omega)) (.cells #[.bool b1, .slice A1 n1 c1] 77)).alloc (by first | omega | (simp <;> omega)) (.cells #[.bool b'1, .slice A'1 n'1 c'1] 77))
  have x2a : Blk ((w1.alloc (.cells #[.bool b1, .slice A1 n1 c1] 77)).alloc (.cells #[.bool b'1, .slice A'1 n'1 c'1] 77)) w1.heap.size 77 #[.bool b1, .slice A1 n1 c1] := ((blkAt _ _ _ (by simp)).alloc (.cells #[.bool b'1, .slice A'1 n'1 c'1] 77))
  have x2b : Blk ((w1.alloc (.cells #[.bool b1, .slice A1 n1 c1] 77)).alloc (.cells #[.bool b'1, .slice A'1 n'1 c'1] 77)) (w1.heap.size + 1) 77 #[.bool b'1, .slice A'1 n'1 c'1] := (blkAt _ _ _ (by simp))
  replace x1a := ((x1a.alloc (.cells #[.bool b1, .slice A1 n1 c1] 77)).alloc (.cells #[.bool b'1, .slice A'1 n'1 c'1] 77))
  have lw2 : w1.heap.size + 2 ≤ ((w1.alloc (.cells #[.bool b1, .slice A1 n1 c1] 77)).alloc (.cells #[.bool b'1, .slice A'1 n'1 c'1] 77)).heap.size := by simp
  generalize hE2 : ((w1.alloc (.cells #[.bool b1, .slice A1 n1 c1] 77)).alloc (.cells #[.bool b'1, .slice A'1 n'1 c'1] 77)) = w2 at p2 bw2 lw2 x2a x2b x1a ⊢
  clear hE2
  replace h := h.keep p2
  replace h1 := h1.keep p2
  replace h'1 := h'1.keep p2
  clear bw1
  obtain ⟨lx1aa, lx1ab, lx1ac, lx1ad⟩ := lts0 x1a.lt
  obtain ⟨lx2aa, lx2ab, lx2ac, lx2ad⟩ := lts0 x2a.lt
  obtain ⟨cx2ba, cx2bb⟩ := x2b.c2
  obtain ⟨lx2ba, lx2bb, lx2bc, lx2bd⟩ := lts1 x2b.lt
  go_region_held3 (fun w' => Sees w2.heap.size w2 w') (first | with_reducible exact Sees.of (Nat.le_refl _) (by assumption) | with_reducible exact Sees.of (Nat.le_refl _) (brefl _).drew | exact Sees.of (Nat.le_refl _) (below_drewN (brefl _) 1) | exact Sees.of (Nat.le_refl _) (below_drewN (by assumption) _))
    (first
      | (go_at_call 54; (with_reducible refine (f_one _).mono ?_); rintro e w3 ⟨b3, A3, n3, c3, rfl, h3, hb3⟩; replace hb3 := bnext (below_drewN (brefl _) 1) hb3; have q3 : Below w2.heap.size w2 w3 := bnext (brefl w2) hb3; replace h := h.belw hb3; replace h1 := h1.belw hb3; replace h'1 := h'1.belw hb3)
      | (go_at_call 49; (with_reducible refine (i_cmp_w _ b'1 A'1 n'1 c'1 (((q).den : Int)) ((k)) ?_ b3 A3 n3 c3 (1) (1) ?_ 0 HC.out ?_).mono ?_); (exact h'1.iz); (exact h3.iz); (first | omega | decide | assumption); rintro e w4 ⟨rfl, hb4⟩; have q4 : Below w2.heap.size w2 w4 := bnext q3 hb4; replace h := h.belw hb4; replace h1 := h1.belw hb4; replace h'1 := h'1.belw hb4; replace h3 := h3.belw hb4))
  have bw4 := bw2.trans (q4.mono bw2.size)
  clear lx1aa lx1ab lx1ac lx1ad lx2aa lx2ab lx2ac lx2ad cx2ba cx2bb lx2ba lx2bb lx2bc lx2bd
  replace x1a := x1a.b q4
  replace x2a := x2a.b q4
  replace x2b := x2b.b q4
  have lw4 := q4.size
  obtain ⟨cx2aa, cx2ab⟩ := x2a.c2
  obtain ⟨lx2aa, lx2ab, lx2ac, lx2ad⟩ := lts0 x2a.lt
  go_wp2_with fail
  (with_reducible refine (i_text_l _ b1 A1 n1 c1 ((q).num) ((k)) ?_ (Lib.itoa q.num) ?_ ?_ ?_).mono ?_); (exact h1.iz); (first | omega | decide | assumption); (first | exact htab.belw bw4 | exact (htab.belw bw4).belw (below_drewN (brefl _) 1) | exact (htab.belw bw4).belw (brefl _).drew | exact (htab.belw bw4).belw (by assumption) | fail); (exact rfl); rintro e w5 ⟨rfl, q5⟩
  clear cx2aa cx2ab lx2aa lx2ab lx2ac lx2ad
  replace h := h.belw q5
  replace h1 := h1.belw q5
  replace h'1 := h'1.belw q5
  replace h3 := h3.belw q5
  replace x1a := x1a.b q5
  replace x2a := x2a.b q5
  replace x2b := x2b.b q5
  have bw5 := bw4.trans (q5.mono bw4.size)
  have lw5 := q5.size
  clear q5 bw4
  go_wp2_with fail
  go_ret
  exact ⟨rfl, bw5⟩
theorem f_text_2 (w : World) (b : Bool) (A : Option Addr) (n c : Nat) (D : Option Addr) (m e : Nat) (q : Rat) (k : Nat) (h : QZ w b A n c D m e q k) (h0 : 0 < k) (hk : k ≤ 40000000) (htab : Tab w) (hd : q.den ≠ 1) :
    Calls Tryz.prog 42 #[.agg #[.bool b, .slice A n c, .slice D m e]] w (RetV w (strV (ratText q))) := by
  rw [ratText_2 hd]
  obtain ⟨u, hu⟩ : ∃ u, cmpI (q.den : Int) 1 = u := ⟨_, rfl⟩
  have hu0 : u ≠ 0 := by rw [← hu]; exact cmpI_ne (by omega)
  have e0 : ((u : Int) == 0) = false := by simp; exact hu0
  have HC := Lib.hid hu
  obtain ⟨X, hX⟩ : ∃ X, Lib.itoa q.num = X := ⟨_, rfl⟩
  obtain ⟨Y, hY⟩ : ∃ Y, Lib.itoa (q.den : Int) = Y := ⟨_, rfl⟩
  have hs := h.sz h0
  have hx1 : (⟨X.toArray⟩ : ByteArray).size ≤ 1000000000 := by show X.length ≤ _; rw [← hX]; have := itoa_le hs.1 hk (by omega); omega
  have hy1 : (⟨Y.toArray⟩ : ByteArray).size ≤ 1000000000 := by show Y.length ≤ _; rw [← hY]; have := itoa_le (z := (q.den : Int)) (by simpa using hs.2) hk (by omega); omega
  obtain ⟨N, hN⟩ : ∃ N, (⟨X.toArray⟩ : ByteArray).size = N := ⟨_, rfl⟩
  obtain ⟨M, hM⟩ : ∃ M, (⟨Y.toArray⟩ : ByteArray).size = M := ⟨_, rfl⟩
  rw [hN] at hx1
  rw [hM] at hy1
  have hc1 : (9223372036854775807 < N + 1) = False := by simp; omega
  have hc2 : (9223372036854775807 ≤ N) = False := by simp; omega
  have hc3 : (9223372036854775807 < N + 1 + M) = False := by simp; omega
  rw [hX, hY]
  have HX := Lib.hid hX
  have HY := Lib.hid hY
  clear hd hu hu0 hX hY hs
  go_enter Tryz.func42, Tryz.ntmps42
  go_wp2_with fail
  (with_reducible refine (f_parts _ b A n c D m e (q) (k) ?_ ?_ ?_).mono ?_); (exact (h.belw ((Below.refl _ _).alloc (Nat.le_refl _) _))); (first | omega | decide | assumption); (first | omega | decide | assumption); rintro e w1 ⟨b1, A1, n1, c1, b'1, A'1, n'1, c'1, rfl, h1, h'1, hb1⟩
  have q1 := ((Below.refl _ _).alloc (Nat.le_refl _) _).trans (hb1.mono (by simp))
  replace h := h.belw q1
  have x1a : Blk w1 w.heap.size 24 #[.bool b, .slice A n c, .slice D m e] := (blkAt _ _ _ (by simp)).below hb1 (by simp)
  have bw1 := (brefl w).trans (q1.mono (brefl w).size)
  have lw1 : w.heap.size + 1 ≤ w1.heap.size := by have := hb1.size; simp at this; omega
  clear q1
  go_wp2_with fail
  have p2 := (((Kp.refl w1).alloc (.cells #[.bool b1, .slice A1 n1 c1] 77)).alloc (.cells #[.bool b'1, .slice A'1 n'1 c'1] 77))
  have bw2 := ((bw1.alloc (by first | omega | (simp <;> omega)) (.cells #[.bool b1, .slice A1 n1 c1] 77)).alloc (by first | omega | (simp <;> omega)) (.cells #[.bool b'1, .slice A'1 n'1 c'1] 77))
  have x2a : Blk ((w1.alloc (.cells #[.bool b1, .slice A1 n1 c1] 77)).alloc (.cells #[.bool b'1, .slice A'1 n'1 c'1] 77)) w1.heap.size 77 #[.bool b1, .slice A1 n1 c1] := ((blkAt _ _ _ (by simp)).alloc (.cells #[.bool b'1, .slice A'1 n'1 c'1] 77))
  have x2b : Blk ((w1.alloc (.cells #[.bool b1, .slice A1 n1 c1] 77)).alloc (.cells #[.bool b'1, .slice A'1 n'1 c'1] 77)) (w1.heap.size + 1) 77 #[.bool b'1, .slice A'1 n'1 c'1] := (blkAt _ _ _ (by simp))
  replace x1a := ((x1a.alloc (.cells #[.bool b1, .slice A1 n1 c1] 77)).alloc (.cells #[.bool b'1, .slice A'1 n'1 c'1] 77))
  have lw2 : w1.heap.size + 2 ≤ ((w1.alloc (.cells #[.bool b1, .slice A1 n1 c1] 77)).alloc (.cells #[.bool b'1, .slice A'1 n'1 c'1] 77)).heap.size := by simp
  generalize hE2 : ((w1.alloc (.cells #[.bool b1, .slice A1 n1 c1] 77)).alloc (.cells #[.bool b'1, .slice A'1 n'1 c'1] 77)) = w2 at p2 bw2 lw2 x2a x2b x1a ⊢
  clear hE2
  replace h := h.keep p2
  replace h1 := h1.keep p2
  replace h'1 := h'1.keep p2
  clear bw1
  obtain ⟨lx1aa, lx1ab, lx1ac, lx1ad⟩ := lts0 x1a.lt
  obtain ⟨lx2aa, lx2ab, lx2ac, lx2ad⟩ := lts0 x2a.lt
  obtain ⟨cx2ba, cx2bb⟩ := x2b.c2
  obtain ⟨lx2ba, lx2bb, lx2bc, lx2bd⟩ := lts1 x2b.lt
  go_region_held3 (fun w' => Sees w2.heap.size w2 w') (first | with_reducible exact Sees.of (Nat.le_refl _) (by assumption) | with_reducible exact Sees.of (Nat.le_refl _) (brefl _).drew | exact Sees.of (Nat.le_refl _) (below_drewN (brefl _) 1) | exact Sees.of (Nat.le_refl _) (below_drewN (by assumption) _))
    (first
      | (go_at_call 54; (with_reducible refine (f_one _).mono ?_); rintro e w3 ⟨b3, A3, n3, c3, rfl, h3, hb3⟩; replace hb3 := bnext (below_drewN (brefl _) 1) hb3; have q3 : Below w2.heap.size w2 w3 := bnext (brefl w2) hb3; replace h := h.belw hb3; replace h1 := h1.belw hb3; replace h'1 := h'1.belw hb3)
      | (go_at_call 49; (with_reducible refine (i_cmp_w _ b'1 A'1 n'1 c'1 (((q).den : Int)) ((k)) ?_ b3 A3 n3 c3 (1) (1) ?_ u HC.out ?_).mono ?_); (exact h'1.iz); (exact h3.iz); (first | omega | decide | assumption); rintro e w4 ⟨rfl, hb4⟩; have q4 : Below w2.heap.size w2 w4 := bnext q3 hb4; replace h := h.belw hb4; replace h1 := h1.belw hb4; replace h'1 := h'1.belw hb4; replace h3 := h3.belw hb4))
  have bw4 := bw2.trans (q4.mono bw2.size)
  clear lx1aa lx1ab lx1ac lx1ad lx2aa lx2ab lx2ac lx2ad cx2ba cx2bb lx2ba lx2bb lx2bc lx2bd
  replace x1a := x1a.b q4
  replace x2a := x2a.b q4
  replace x2b := x2b.b q4
  have lw4 := q4.size
  obtain ⟨lx1aa, lx1ab, lx1ac, lx1ad⟩ := lts0 x1a.lt
  obtain ⟨cx2aa, cx2ab⟩ := x2a.c2
  obtain ⟨lx2aa, lx2ab, lx2ac, lx2ad⟩ := lts0 x2a.lt
  obtain ⟨cx2ba, cx2bb⟩ := x2b.c2
  obtain ⟨lx2ba, lx2bb, lx2bc, lx2bd⟩ := lts1 x2b.lt
  go_wp2_with fail
  go_region_held3 (fun w' => Sees w4.heap.size w4 w') (first | with_reducible exact Sees.of (Nat.le_refl _) (by assumption) | with_reducible exact Sees.of (Nat.le_refl _) (brefl _).drew | exact Sees.of (Nat.le_refl _) (below_drewN (brefl _) 1) | exact Sees.of (Nat.le_refl _) (below_drewN (by assumption) _))
    (first
      | (go_at_call 77; (with_reducible refine (i_text_l _ b1 A1 n1 c1 ((q).num) ((k)) ?_ X ?_ ?_ ?_).mono ?_); (exact h1.iz); (first | omega | decide | assumption); (first | exact htab.belw bw4 | exact (htab.belw bw4).belw (below_drewN (brefl _) 1) | exact (htab.belw bw4).belw (brefl _).drew | exact (htab.belw bw4).belw (by assumption) | fail); (exact HX.out); rintro e w5 ⟨rfl, hb5⟩; replace hb5 := bnext (below_drewN (brefl _) 1) hb5; have q5 : Below w4.heap.size w4 w5 := bnext (brefl w4) hb5; replace h := h.belw hb5; replace h1 := h1.belw hb5; replace h'1 := h'1.belw hb5; replace h3 := h3.belw hb5)
      | (go_at_call 77; (with_reducible refine (i_text_l _ b'1 A'1 n'1 c'1 (((q).den : Int)) ((k)) ?_ Y ?_ ?_ ?_).mono ?_); (exact h'1.iz); (first | omega | decide | assumption); (first | exact htab.belw bw4 | exact (htab.belw bw4).belw (below_drewN (brefl _) 1) | exact (htab.belw bw4).belw (brefl _).drew | exact (htab.belw bw4).belw (by assumption) | fail); (exact HY.out); rintro e w6 ⟨rfl, hb6⟩; have q6 : Below w4.heap.size w4 w6 := bnext q5 hb6; replace h := h.belw hb6; replace h1 := h1.belw hb6; replace h'1 := h'1.belw hb6; replace h3 := h3.belw hb6))
  have bw6 := bw4.trans (q6.mono bw4.size)
  clear lx1aa lx1ab lx1ac lx1ad cx2aa cx2ab lx2aa lx2ab lx2ac lx2ad cx2ba cx2bb lx2ba lx2bb lx2bc lx2bd
  replace x1a := x1a.b q6
  replace x2a := x2a.b q6
  replace x2b := x2b.b q6
  have lw6 := q6.size
  go_wp2_with fail
  go_ret
  refine ⟨?_, bw6⟩
  exact congrArg (fun x => Ending.returned (.string x)) (cat_slash X Y)
theorem f_text (w : World) (b : Bool) (A : Option Addr) (n c : Nat) (D : Option Addr) (m e : Nat) (q : Rat) (k : Nat) (h : QZ w b A n c D m e q k) (h0 : 0 < k) (hk : k ≤ 40000000) (htab : Tab w) (T : List UInt8) (hT : ratText q = T) : Calls Tryz.prog 42 #[.agg #[.bool b, .slice A n c, .slice D m e]] w (RetV w (strV T)) := by
  subst hT
  by_cases hd : q.den = 1
  · exact f_text_1 w b A n c D m e q k h h0 hk htab hd
  · exact f_text_2 w b A n c D m e q k h h0 hk htab hd
end Go.Proofs.YtianjkiakkclgaaGreatDoor

/- Walks: turns: Of, Toward, Parse. -/
namespace Go.Proofs.YtianjkiakkclgaaGreatDoor
open Go Go.RowKit Bn
attribute [local go_sem ↓] Go.wp_at_zero Go.wp_at_succ
def onC (c s : Rat) : Prop := c * c + s * s = ((1 : Int) : Rat)
instance (c s : Rat) : Decidable (onC c s) := by unfold onC; exact inferInstance
theorem f_parse_0 (w : World) (s : List UInt8) (q : Rat) (hmx : Mx w) (h : FracOut s 0 q) : Calls Tryz.prog 31 #[strV s] w (RetFe w .nilIface q 65536) := by
  have := f_parse_o w s 0 q hmx h
  rw [show errV 0 = .nilIface from if_pos rfl] at this
  exact this
theorem f_parse_x (w : World) (s : List UInt8) (x : Int) (q : Rat) (hx : x ≠ 0) (hmx : Mx w) (h : FracOut s x q) : Calls Tryz.prog 31 #[strV s] w (RetFe w (.iface 57 (.int .i64 x)) q 65536) := by
  have := f_parse_o w s x q hmx h
  rw [show errV x = .iface 57 (.int .i64 x) from if_neg hx] at this
  exact this
def halfS : List UInt8 := [104, 97, 108, 102]
theorem t_Parse_half (w : World) (s : List UInt8) (hs : s = halfS) :
  Calls Tryz.prog 9 #[strV s] w (RetTe w (.nilIface) thalf 65536) := by
 unfold halfS at hs
 subst hs
 go_enter Tryz.func9, Tryz.ntmps9
 go_wp2_with fail
 (with_reducible refine (t_half _).mono ?_); rintro e w1 ⟨b1, A1, n1, c1, A'1, n'1, c'1, x1, rfl, h1, hb1⟩
 have q1 := ((Below.refl _ _).alloc (Nat.le_refl _) _).trans (hb1.mono (by simp))
 have x1a : Blk w1 w.heap.size 28 #[.bool false, .slice none 0 0, .slice none 0 0, .bool false] := (blkAt _ _ _ (by simp)).below hb1 (by simp)
 have bw1 := (brefl w).trans (q1.mono (brefl w).size)
 have lw1 : w.heap.size + 1 ≤ w1.heap.size := by have := hb1.size; simp at this; omega
 clear q1
 obtain ⟨cx1aa, cx1ab, cx1ac, cx1ad⟩ := x1a.c4
 obtain ⟨fx1aa, fx1ab, fx1ac, fx1ad⟩ := x1a.f4
 obtain ⟨lx1aa, lx1ab, lx1ac, lx1ad⟩ := lts0 x1a.lt
 go_wp2_with fail
 refine bodyPost_ret (v := .tuple #[.agg #[.bool b1, .slice A1 n1 c1, .slice A'1 n'1 c'1, .bool x1], .nilIface]) (by simp [results, Tryz.results9, go_sem, *] <;> first | rfl | exact ⟨rfl, rfl⟩) rfl ?_
 have kp := (((((Kp.refl w1).sb w.heap.size 0 x1a.box (by decide) (.bool b1)).sb w.heap.size 1 (x1a.box.set ⟨w.heap.size, 0, none⟩ (.bool b1)) (by decide) (.slice A1 n1 c1)).sb w.heap.size 2 ((x1a.box.set ⟨w.heap.size, 0, none⟩ (.bool b1)).set ⟨w.heap.size, 1, none⟩ (.slice A1 n1 c1)) (by decide) (.slice A'1 n'1 c'1)).sb w.heap.size 3 (((x1a.box.set ⟨w.heap.size, 0, none⟩ (.bool b1)).set ⟨w.heap.size, 1, none⟩ (.slice A1 n1 c1)).set ⟨w.heap.size, 2, none⟩ (.slice A'1 n'1 c'1)) (by decide) (.bool x1))
 exact ⟨b1, A1, n1, c1, A'1, n'1, c'1, x1, rfl, (h1.keep kp).mono (by decide), ((((bw1.sc w.heap.size 0 (by omega) (.bool b1)).sc w.heap.size 1 (by omega) (.slice A1 n1 c1)).sc w.heap.size 2 (by omega) (.slice A'1 n'1 c'1)).sc w.heap.size 3 (by omega) (.bool x1))⟩
theorem t_Parse_ok (w : World) (s : List UInt8) (q : Rat) (hmx : Mx w) (h : FracOut s 0 q) (hs : s ≠ halfS) :
  Calls Tryz.prog 9 #[strV s] w (RetTe w (.nilIface) ⟨q, false⟩ 65536) := by
 have hxs : (s == [104, 97, 108, 102]) = false := beq_eq_false_iff_ne.2 hs
 have htl := toList_v s
 have HX := Lib.hid h
 clear h hs
 go_enter Tryz.func9, Tryz.ntmps9
 go_wp2_with fail
 (with_reducible refine (f_parse_0 _ (s) q (hmx.belw ((brefl w).alloc (by first | omega | (simp <;> omega)) (.cells #[.bool false, .slice none 0 0, .slice none 0 0, .bool false] 28))) HX.out).mono ?_); rintro e w1 ⟨b1, A1, n1, c1, A'1, n'1, c'1, rfl, h1, hb1⟩
 have q1 := ((Below.refl _ _).alloc (Nat.le_refl _) _).trans (hb1.mono (by simp))
 have x1a : Blk w1 w.heap.size 28 #[.bool false, .slice none 0 0, .slice none 0 0, .bool false] := (blkAt _ _ _ (by simp)).below hb1 (by simp)
 have bw1 := (brefl w).trans (q1.mono (brefl w).size)
 have lw1 : w.heap.size + 1 ≤ w1.heap.size := by have := hb1.size; simp at this; omega
 clear q1
 obtain ⟨cx1aa, cx1ab, cx1ac, cx1ad⟩ := x1a.c4
 obtain ⟨fx1aa, fx1ab, fx1ac, fx1ad⟩ := x1a.f4
 obtain ⟨lx1aa, lx1ab, lx1ac, lx1ad⟩ := lts0 x1a.lt
 go_wp2_with fail
 refine bodyPost_ret (v := .tuple #[.agg #[.bool b1, .slice A1 n1 c1, .slice A'1 n'1 c'1, .bool false], .nilIface]) (by simp [results, Tryz.results9, go_sem, *] <;> first | rfl | exact ⟨rfl, rfl⟩) rfl ?_
 have kp := ((((((Kp.refl w1).sb w.heap.size 0 x1a.box (by decide) (.bool b1)).sb w.heap.size 1 (x1a.box.set ⟨w.heap.size, 0, none⟩ (.bool b1)) (by decide) (.slice A1 n1 c1)).sb w.heap.size 2 ((x1a.box.set ⟨w.heap.size, 0, none⟩ (.bool b1)).set ⟨w.heap.size, 1, none⟩ (.slice A1 n1 c1)) (by decide) (.slice A'1 n'1 c'1)).sb w.heap.size 3 (((x1a.box.set ⟨w.heap.size, 0, none⟩ (.bool b1)).set ⟨w.heap.size, 1, none⟩ (.slice A1 n1 c1)).set ⟨w.heap.size, 2, none⟩ (.slice A'1 n'1 c'1)) (by decide) (.bool false)).alloc (.cells #[.bool b1, .slice A1 n1 c1, .slice A'1 n'1 c'1] 24))
 exact ⟨b1, A1, n1, c1, A'1, n'1, c'1, false, rfl, TV.frac ((h1.keep kp).mono (by decide)), (((((bw1.sc w.heap.size 0 (by omega) (.bool b1)).sc w.heap.size 1 (by omega) (.slice A1 n1 c1)).sc w.heap.size 2 (by omega) (.slice A'1 n'1 c'1)).sc w.heap.size 3 (by omega) (.bool false)).alloc (by first | omega | (simp <;> omega)) (.cells #[.bool b1, .slice A1 n1 c1, .slice A'1 n'1 c'1] 24))⟩
theorem t_Parse_bad (w : World) (s : List UInt8) (x : Int) (q : Rat) (hmx : Mx w) (h : FracOut s x q) (hx : x ≠ 0) (hs : s ≠ halfS) :
  Calls Tryz.prog 9 #[strV s] w (RetTe w (.iface 57 (.int .i64 x)) tzero 65536) := by
 have hxs : (s == [104, 97, 108, 102]) = false := beq_eq_false_iff_ne.2 hs
 have htl := toList_v s
 have HX := Lib.hid h
 clear h hs
 have HN := Lib.hid hx
 have e0 : ((x : Int) == 0) = false := beq_eq_false_iff_ne.2 hx
 have e1 : ((x : Int) != 0) = true := bne_iff_ne.2 hx
 clear hx
 go_enter Tryz.func9, Tryz.ntmps9
 go_wp2_with fail
 (with_reducible refine (f_parse_x _ (s) x q HN.out (hmx.belw ((brefl w).alloc (by first | omega | (simp <;> omega)) (.cells #[.bool false, .slice none 0 0, .slice none 0 0, .bool false] 28))) HX.out).mono ?_); rintro e w1 ⟨b1, A1, n1, c1, A'1, n'1, c'1, rfl, h1, hb1⟩
 have q1 := ((Below.refl _ _).alloc (Nat.le_refl _) _).trans (hb1.mono (by simp))
 have x1a : Blk w1 w.heap.size 28 #[.bool false, .slice none 0 0, .slice none 0 0, .bool false] := (blkAt _ _ _ (by simp)).below hb1 (by simp)
 have bw1 := (brefl w).trans (q1.mono (brefl w).size)
 have lw1 : w.heap.size + 1 ≤ w1.heap.size := by have := hb1.size; simp at this; omega
 clear q1
 obtain ⟨cx1aa, cx1ab, cx1ac, cx1ad⟩ := x1a.c4
 obtain ⟨fx1aa, fx1ab, fx1ac, fx1ad⟩ := x1a.f4
 obtain ⟨lx1aa, lx1ab, lx1ac, lx1ad⟩ := lts0 x1a.lt
 go_wp2_with fail
 refine bodyPost_ret (v := .tuple #[.agg #[.bool false, .slice none 0 0, .slice none 0 0, .bool false], .iface 57 (.int .i64 x)]) (by simp [results, Tryz.results9, go_sem, *] <;> first | rfl | exact ⟨rfl, rfl⟩) rfl ?_
 have kp := ((((((Kp.refl w1).sb w.heap.size 0 x1a.box (by decide) (.bool false)).sb w.heap.size 1 (x1a.box.set ⟨w.heap.size, 0, none⟩ (.bool false)) (by decide) (.slice none 0 0)).sb w.heap.size 2 ((x1a.box.set ⟨w.heap.size, 0, none⟩ (.bool false)).set ⟨w.heap.size, 1, none⟩ (.slice none 0 0)) (by decide) (.slice none 0 0)).sb w.heap.size 3 (((x1a.box.set ⟨w.heap.size, 0, none⟩ (.bool false)).set ⟨w.heap.size, 1, none⟩ (.slice none 0 0)).set ⟨w.heap.size, 2, none⟩ (.slice none 0 0)) (by decide) (.bool false)).alloc (.cells #[.bool b1, .slice A1 n1 c1, .slice A'1 n'1 c'1] 24))
 exact ⟨false, none, 0, 0, none, 0, 0, false, rfl, tv_zero _ _, (((((bw1.sc w.heap.size 0 (by omega) (.bool false)).sc w.heap.size 1 (by omega) (.slice none 0 0)).sc w.heap.size 2 (by omega) (.slice none 0 0)).sc w.heap.size 3 (by omega) (.bool false)).alloc (by first | omega | (simp <;> omega)) (.cells #[.bool b1, .slice A1 n1 c1, .slice A'1 n'1 c'1] 24))⟩
theorem RetTe.mono {w : World} {v : Value} {t : TN} {k j : Nat} {e : Ending} {w' : World} (h : RetTe w v t k e w') (hk : k ≤ j) : RetTe w v t j e w' := by
  obtain ⟨b, A, n, c, A', n', c', x, h1, h2, h3⟩ := h
  exact ⟨b, A, n, c, A', n', c', x, h1, h2.mono hk, h3⟩
theorem eV0 : errV 0 = .nilIface := if_pos rfl
def ParOut (s : List UInt8) (x : Int) (t : TN) : Prop := (s = halfS ∧ x = 0 ∧ t = thalf) ∨ (s ≠ halfS ∧ ∃ q, FracOut s x q ∧ ((x = 0 ∧ t = ⟨q, false⟩) ∨ (x ≠ 0 ∧ t = tzero)))
theorem parOut (s : List UInt8) : ∃ x t, ParOut s x t := by
  by_cases hs : s = halfS
  · exact ⟨0, thalf, .inl ⟨hs, rfl, rfl⟩⟩
  · obtain ⟨x, q, h⟩ := fracOut s
    by_cases hx : x = 0
    · exact ⟨x, _, .inr ⟨hs, q, h, .inl ⟨hx, rfl⟩⟩⟩
    · exact ⟨x, _, .inr ⟨hs, q, h, .inr ⟨hx, rfl⟩⟩⟩
theorem t_Parse_o (w : World) (s : List UInt8) (x : Int) (t : TN) (hmx : Mx w) (h : ParOut s x t) : Calls Tryz.prog 9 #[strV s] w (RetTe w (errV x) t 65536) := by
  rcases h with ⟨h1, rfl, rfl⟩ | ⟨h1, q, h2, ⟨rfl, rfl⟩ | ⟨h3, rfl⟩⟩
  · rw [eV0]; exact t_Parse_half w s h1
  · rw [eV0]; exact t_Parse_ok w s q hmx h2 h1
  · rw [show errV x = .iface 57 (.int .i64 x) from if_neg h3]; exact t_Parse_bad w s x q hmx h2 h3 h1
end Go.Proofs.YtianjkiakkclgaaGreatDoor

/- Walks: the laws' own small functions: short, good. -/
namespace Go.Proofs.YtianjkiakkclgaaGreatDoor
open Go Go.RowKit Bn
attribute [local go_sem ↓] Go.wp_at_zero Go.wp_at_succ
def Rs (w : World) (g N : Nat) (ns ms : Nat → Nat) : Prop := g < w.heap.size ∧ ∀ i, i < N → ∃ b A c D e, w.cell? ⟨g, i * 3, none⟩ = some (.bool b) ∧ w.cell? ⟨g, i * 3 + 1, none⟩ = some (.slice A (ns i) c) ∧ w.cell? ⟨g, i * 3 + 2, none⟩ = some (.slice D (ms i) e)
theorem Rs.belw {w w' : World} {g N : Nat} {ns ms : Nat → Nat} (h : Rs w g N ns ms) (hb : Below w.heap.size w w') : Rs w' g N ns ms := by
  obtain ⟨hg, h⟩ := h
  have hc := (bcell hb).1
  refine ⟨Nat.lt_of_lt_of_le hg hb.size, fun i hi => ?_⟩
  obtain ⟨b, A, c, D, e, h1, h2, h3⟩ := h i hi
  exact ⟨b, A, c, D, e, (hc _ _ hg).trans h1, (hc _ _ hg).trans h2, (hc _ _ hg).trans h3⟩
def RetSh (w : World) (N : Nat) (ns ms : Nat → Nat) (e : Ending) (w' : World) : Prop := ∃ r : Bool, e = .returned (.bool r) ∧ (r = true → ∀ i, i < N → ns i ≤ 6 ∧ ms i ≤ 6) ∧ Below w.heap.size w w'
theorem l_short (w : World) (g N : Nat) (ns ms : Nat → Nat) (h : Rs w g N ns ms) (hN : N ≤ 1000) :
  Calls Tryz.prog 6 #[.slice (some ⟨g, 0, none⟩) N N] w (RetSh w N ns ms) := by
 go_enter Tryz.func6, Tryz.ntmps6
 go_wp2_with fail
 go_loopw [7] (fun iv wr => ∃ i : Nat, i ≤ N ∧ iv = .int .i64 (i : Nat) ∧ (∀ j, j < i → ns j ≤ 6 ∧ ms j ≤ 6) ∧ Below w.heap.size w wr) (fun iv _ => N - (intOf iv).toNat)
 case atStart => exact ⟨0, Nat.zero_le _, rfl, fun j hj => absurd hj (by omega), brefl w⟩
 case round =>
  obtain ⟨i, hi, rfl, hall, hb⟩ := hrel
  have HA := Lib.hid hall
  have HB := Lib.hid hb
  by_cases hlt : i < N
  ·have hw := h.belw hb
   obtain ⟨b, A, c, D, e, c0, c1, c2⟩ := hw.2 i hlt
   have hgl := hw.1
   have H := Lib.hid h
   obtain ⟨p, hp⟩ : ∃ p, ns i = p := ⟨_, rfl⟩
   obtain ⟨q, hq⟩ : ∃ q, ms i = q := ⟨_, rfl⟩
   rw [hp] at c1
   rw [hq] at c2
   have HP := Lib.hid (And.intro hp hq)
   clear h hw hall hb hp hq
   by_cases h1 : p ≤ 6
   ·by_cases h2 : q ≤ 6
    ·go_wp2_with fail
     go_roundw
     case rel => exact ⟨i + 1, by omega, by go_num, fun j hj => by
      by_cases hji : j = i
      ·subst hji; rw [HP.out.1, HP.out.2]; exact ⟨h1, h2⟩
      ·exact HA.out j (by omega), HB.out.alloc HB.out.size _⟩
     case measure => simp [intOf]; omega
    ·go_wp2_with fail
     go_ret
     exact ⟨false, rfl, (fun h => nomatch h), HB.out.alloc HB.out.size _⟩
   ·go_wp2_with fail
    go_ret
    exact ⟨false, rfl, (fun h => nomatch h), HB.out.alloc HB.out.size _⟩
  ·have hiN : i = N := by omega
   subst hiN
   clear h hall hb
   go_wp2_with fail
   go_ret
   exact ⟨true, rfl, fun _ => HA.out, HB.out⟩
def Gs (w : World) (g N k : Nat) (rs : Nat → RD) (xs : Nat → Bool) : Prop := g < w.heap.size ∧ ∀ i, i < N → ∃ b A m c D m' e, w.cell? ⟨g, i * 4, none⟩ = some (.bool b) ∧ w.cell? ⟨g, i * 4 + 1, none⟩ = some (.slice A m c) ∧ w.cell? ⟨g, i * 4 + 2, none⟩ = some (.slice D m' e) ∧ w.cell? ⟨g, i * 4 + 3, none⟩ = some (.bool (xs i)) ∧ QD w b A m c D m' e (rs i) k
theorem Gs.belw {w w' : World} {g N k : Nat} {rs : Nat → RD} {xs : Nat → Bool} (h : Gs w g N k rs xs) (hb : Below w.heap.size w w') : Gs w' g N k rs xs := by
  obtain ⟨hg, h⟩ := h
  have hc := (bcell hb).1
  refine ⟨Nat.lt_of_lt_of_le hg hb.size, fun i hi => ?_⟩
  obtain ⟨b, A, m, c, D, m', e, h1, h2, h3, h4, h5⟩ := h i hi
  exact ⟨b, A, m, c, D, m', e, (hc _ _ hg).trans h1, (hc _ _ hg).trans h2, (hc _ _ hg).trans h3, (hc _ _ hg).trans h4, h5.belw hb⟩
end Go.Proofs.YtianjkiakkclgaaGreatDoor

/- Walks: equal fields of equal fractions. -/
namespace Go.Proofs.YtianjkiakkclgaaGreatDoor
open Go Go.RowKit Bn
attribute [local go_sem ↓] Go.wp_at_zero Go.wp_at_succ
theorem b_words (w : World) (A : Option Addr) (n c : Nat) (l : List Nat) (wa : Wd w A n c l) (A' : Option Addr) (n' c' : Nat) (wb : Wd w A' n' c' l) (hn : n ≤ 1000000000) :
  Calls Tryz.prog 47 #[.slice A n c, .slice A' n' c'] w (RetV w (.bool true)) := by
 have hnn : n' = n := by rw [wa.2.1, wb.2.1]
 subst hnn
 have HA := Lib.hid wa
 have HB := Lib.hid wb
 clear wa wb
 go_enter Tryz.func47, Tryz.ntmps47
 go_wp2_with fail
 go_loopw [5] (fun iv wr => ∃ (i q : Nat), i ≤ n' ∧ iv = .int .i64 (i : Nat) ∧ wr = w.drewN q) (fun iv _ => n' - (intOf iv).toNat)
 case atStart => exact ⟨0, 0, Nat.zero_le _, rfl, rfl⟩
 case round =>
  obtain ⟨i, q, hi, rfl, rfl⟩ := hrel
  by_cases hlt : i < n'
  ·obtain ⟨g, o, rfl, hc1⟩ := HA.out.at_ (by omega)
   obtain ⟨g', o', rfl, hc2⟩ := HB.out.at_ (by omega)
   have h1 := hc1 i hlt
   have h2 := hc2 i hlt
   have hi0 : (0 : Int) ≤ (i : Int) := by omega
   have hi1 : (i : Int) < (n' : Int) := by omega
   generalize wd l i = x at h1 h2
   clear hc1 hc2
   go_wp2_with fail
   go_quiet (fail)
   go_wp2
   go_roundw
   case rel => exact ⟨i + 1, _, by omega, by go_num, rfl⟩
   case measure => simp [intOf]; omega
  ·go_wp2
   go_ret
   exact retB rfl (by repeat (first | exact Below.refl _ _ | refine below_drewN ?_ _))
theorem b_rat (w : World) (b : Bool) (A : Option Addr) (n c : Nat) (D : Option Addr) (m e : Nat) (b' : Bool) (A' : Option Addr) (n' c' : Nat) (D' : Option Addr) (m' e' : Nat) (q : Rat) (k k' : Nat) (h : QV w b A n c D m e q k) (h' : QV w b' A' n' c' D' m' e' q k') (hk : k ≤ 1000000) :
  Calls Tryz.prog 21 #[.agg #[.bool b, .slice A n c, .slice D m e], .agg #[.bool b', .slice A' n' c', .slice D' m' e']] w (RetV w (.bool true)) := by
 obtain ⟨e1, ha, hd, hk1, hk2⟩ := h
 obtain ⟨e1', ha', hd', _, _⟩ := h'
 subst e1 e1'
 have HE : ((rd q).neg == (rd q).neg) = true := by simp
 have HA := Lib.hid (And.intro ha ha')
 have HD := Lib.hid (And.intro hd hd')
 clear ha ha' hd hd'
 go_enter Tryz.func21, Tryz.ntmps21
 go_wp2_with fail
 (with_reducible refine (b_words _ A n c (rd q).num ?_ A' n' c' ?_ ?_).mono ?_); (exact HA.out.1.keep (((Kp.refl _).alloc _).alloc _)); (exact HA.out.2.keep (((Kp.refl _).alloc _).alloc _)); (omega); rintro e w1 ⟨rfl, hb⟩
 have q1 : Below w.heap.size w w1 := (((Below.refl _ _).alloc (Nat.le_refl _) _).alloc (by simp) _).trans (hb.mono (by simp <;> omega))
 have x0 : Blk w1 w.heap.size 24 #[.bool (rd q).neg, .slice A n c, .slice D m e] := ((blkAt w _ _ rfl).alloc _).below hb (by simp <;> omega)
 have x1 : Blk w1 (w.heap.size + 1) 24 #[.bool (rd q).neg, .slice A' n' c', .slice D' m' e'] := (blkAt _ _ _ (by simp)).below hb (by simp)
 have c02 : w1.cell? ⟨w.heap.size, 2, none⟩ = some (.slice D m e) := x0.cell 2
 have c12 : w1.cell? ⟨w.heap.size + 1, 2, none⟩ = some (.slice D' m' e') := x1.cell 2
 clear hb
 go_wp2_with fail
 (with_reducible refine (b_words _ D m e (rd q).den ?_ D' m' e' ?_ ?_).mono ?_); (exact HD.out.1.belw q1); (exact HD.out.2.belw q1); (omega); rintro e w2 ⟨rfl, hb2⟩
 go_wp2_with fail
 go_ret
 exact ⟨rfl, q1.trans (hb2.mono q1.size)⟩
end Go.Proofs.YtianjkiakkclgaaGreatDoor

/- Walks: the laws: part, awake. -/
namespace Go.Proofs.YtianjkiakkclgaaGreatDoor
open Go Go.RowKit Bn
attribute [local go_sem ↓] Go.wp_at_zero Go.wp_at_succ
theorem l_part (w : World) (i j : Int) (hi : -4294967296 < i) (hi2 : i < 4294967296) (hj : -4294967296 < j) (hj2 : j < 4294967296) (q : Rat) (K : Nat) (hd : j ≠ 0) (hq : Rat.divInt i j = q) (hs : Sz q K) :
  Calls Tryz.prog 18 #[.int .i64 i, .int .i64 j] w (RetF w q K) := by
 have HD := Lib.hid hd
 have HQ := Lib.hid hq
 have HS := Lib.hid hs
 clear hd hq hs
 go_enter Tryz.func18, Tryz.ntmps18
 go_wp2_with fail
 (with_reducible refine (g_make _ (i) (j) hi hi2 hj hj2 q K ?_ ?_ ?_).mono ?_); (exact HD.out); (exact HQ.out); (exact HS.out); rintro e w1 ⟨b1, A1, n1, c1, A'1, n'1, c'1, rfl, h1, hb1⟩
 have q1 := ((Below.refl _ _).alloc (Nat.le_refl _) _).trans (hb1.mono (by simp))
 have x1a : Blk w1 w.heap.size 24 #[.bool false, .slice none 0 0, .slice none 0 0] := (blkAt _ _ _ (by simp)).below hb1 (by simp)
 have bw1 := (brefl w).trans (q1.mono (brefl w).size)
 have lw1 : w.heap.size + 1 ≤ w1.heap.size := by have := hb1.size; simp at this; omega
 clear q1
 obtain ⟨cx1aa, cx1ab, cx1ac⟩ := x1a.c3
 obtain ⟨fx1aa, fx1ab, fx1ac⟩ := x1a.f3
 obtain ⟨lx1aa, lx1ab, lx1ac, lx1ad⟩ := lts0 x1a.lt
 go_wp2_with fail
 refine bodyPost_ret (v := .agg #[.bool b1, .slice A1 n1 c1, .slice A'1 n'1 c'1]) (by simp [results, Tryz.results18, go_sem, *] <;> first | rfl | exact ⟨rfl, rfl⟩) rfl ?_
 exact ⟨b1, A1, n1, c1, A'1, n'1, c'1, rfl, h1.keep (((((Kp.refl w1).sb w.heap.size 0 x1a.box (by decide) (.bool b1)).sb w.heap.size 1 (x1a.box.set ⟨w.heap.size, 0, none⟩ (.bool b1)) (by decide) (.slice A1 n1 c1)).sb w.heap.size 2 ((x1a.box.set ⟨w.heap.size, 0, none⟩ (.bool b1)).set ⟨w.heap.size, 1, none⟩ (.slice A1 n1 c1)) (by decide) (.slice A'1 n'1 c'1)).alloc (.cells #[.bool b1, .slice A1 n1 c1, .slice A'1 n'1 c'1] 24)), ((((bw1.sc w.heap.size 0 (by omega) (.bool b1)).sc w.heap.size 1 (by omega) (.slice A1 n1 c1)).sc w.heap.size 2 (by omega) (.slice A'1 n'1 c'1)).alloc (by first | omega | (simp <;> omega)) (.cells #[.bool b1, .slice A1 n1 c1, .slice A'1 n'1 c'1] 24))⟩
theorem sz_dec {q : Rat} (h : (decide (q.num.natAbs < 4294967296) && decide (q.den < 4294967296)) = true) : Sz q 1 := by
  simp only [Bool.and_eq_true, decide_eq_true_eq] at h
  exact ⟨by rw [Nat.pow_one]; exact h.1, by rw [Nat.pow_one]; exact h.2⟩
theorem aw_cos : tcos ⟨Rat.divInt 1 2, false⟩ = Rat.divInt 3 5 := by kernel_rfl
theorem aw_sin : tsin ⟨Rat.divInt 1 2, false⟩ = Rat.divInt 4 5 := by kernel_rfl
theorem aw_half : (tadd ⟨Rat.divInt 1 1, false⟩ ⟨Rat.divInt 1 1, false⟩).h = true := by kernel_rfl
theorem b_rat_e (w : World) (b : Bool) (A : Option Addr) (n c : Nat) (D : Option Addr) (m e : Nat) (q : Rat) (k : Nat) (h : QV w b A n c D m e q k) (b' : Bool) (A' : Option Addr) (n' c' : Nat) (D' : Option Addr) (m' e' : Nat) (q' : Rat) (k' : Nat) (h' : QV w b' A' n' c' D' m' e' q' k') (hq : q = q') (hk : k ≤ 1000000) :
    Calls Tryz.prog 21 #[.agg #[.bool b, .slice A n c, .slice D m e], .agg #[.bool b', .slice A' n' c', .slice D' m' e']] w (RetV w (.bool true)) := by
  subst hq; exact b_rat w b A n c D m e b' A' n' c' D' m' e' q k k' h h' hk
theorem l_awake (w : World)  :
    Calls Tryz.prog 5 #[] w (RetV w (.bool true)) := by
  go_enter Tryz.func5, Tryz.ntmps5
  go_wp2_with fail
  (with_reducible refine (l_part _ (1) (2) (by decide) (by decide) (by decide) (by decide) (Rat.divInt 1 2) 1 ?_ ?_ ?_).mono ?_); (decide); (rfl); (exact sz_dec (by kernel_rfl)); rintro e w1 ⟨b1, A1, n1, c1, A'1, n'1, c'1, rfl, h1, q1⟩
  have bw1 := (brefl w).trans (q1.mono (brefl w).size)
  have lw1 := q1.size
  clear q1
  go_wp2_with fail
  have hF1 := TV.frac h1
  (with_reducible refine (t_cos _ b1 A1 n1 c1 A'1 n'1 c'1 false (⟨(Rat.divInt 1 2), false⟩) (1) ?_ ?_ ?_).mono ?_); (exact hF1.tk); (first | omega | decide | assumption); (first | omega | decide | assumption); rintro e w2 ⟨b2, A2, n2, c2, A'2, n'2, c'2, rfl, h2, q2⟩
  replace h1 := h1.belw q2
  replace hF1 := hF1.belw q2
  have bw2 := bw1.trans (q2.mono bw1.size)
  have lw2 := q2.size
  clear q2 bw1
  go_wp2_with fail
  (with_reducible refine (l_part _ (1) (2) (by decide) (by decide) (by decide) (by decide) (Rat.divInt 1 2) 1 ?_ ?_ ?_).mono ?_); (decide); (rfl); (exact sz_dec (by kernel_rfl)); rintro e w3 ⟨b3, A3, n3, c3, A'3, n'3, c'3, rfl, h3, hb3⟩
  have q3 := ((Below.refl _ _).alloc (Nat.le_refl _) _).trans (hb3.mono (by simp))
  replace h1 := h1.belw q3
  replace hF1 := hF1.belw q3
  replace h2 := h2.belw q3
  have x3a : Blk w3 w2.heap.size 24 #[.bool b2, .slice A2 n2 c2, .slice A'2 n'2 c'2] := (blkAt _ _ _ (by simp)).below hb3 (by simp)
  have bw3 := bw2.trans (q3.mono bw2.size)
  have lw3 : w2.heap.size + 1 ≤ w3.heap.size := by have := hb3.size; simp at this; omega
  clear q3 bw2
  go_wp2_with fail
  have hF2 := TV.frac h3
  (with_reducible refine (t_sin _ b3 A3 n3 c3 A'3 n'3 c'3 false (⟨(Rat.divInt 1 2), false⟩) (1) ?_ ?_ ?_).mono ?_); (exact hF2.tk); (first | omega | decide | assumption); (first | omega | decide | assumption); rintro e w4 ⟨b4, A4, n4, c4, A'4, n'4, c'4, rfl, h4, q4⟩
  replace h1 := h1.belw q4
  replace hF1 := hF1.belw q4
  replace h2 := h2.belw q4
  replace h3 := h3.belw q4
  replace hF2 := hF2.belw q4
  replace x3a := x3a.b q4
  have bw4 := bw3.trans (q4.mono bw3.size)
  have lw4 := q4.size
  clear q4 bw3
  go_wp2_with fail
  (with_reducible refine (l_part _ (1) (1) (by decide) (by decide) (by decide) (by decide) (Rat.divInt 1 1) 1 ?_ ?_ ?_).mono ?_); (decide); (rfl); (exact sz_dec (by kernel_rfl)); rintro e w5 ⟨b5, A5, n5, c5, A'5, n'5, c'5, rfl, h5, hb5⟩
  have q5 := ((Below.refl _ _).alloc (Nat.le_refl _) _).trans (hb5.mono (by simp))
  replace h1 := h1.belw q5
  replace hF1 := hF1.belw q5
  replace h2 := h2.belw q5
  replace h3 := h3.belw q5
  replace hF2 := hF2.belw q5
  replace h4 := h4.belw q5
  replace x3a := x3a.b q5
  have x5a : Blk w5 w4.heap.size 24 #[.bool b4, .slice A4 n4 c4, .slice A'4 n'4 c'4] := (blkAt _ _ _ (by simp)).below hb5 (by simp)
  have bw5 := bw4.trans (q5.mono bw4.size)
  have lw5 : w4.heap.size + 1 ≤ w5.heap.size := by have := hb5.size; simp at this; omega
  clear q5 bw4
  go_wp2_with fail
  have hF3 := TV.frac h5
  (with_reducible refine (l_part _ (1) (1) (by decide) (by decide) (by decide) (by decide) (Rat.divInt 1 1) 1 ?_ ?_ ?_).mono ?_); (decide); (rfl); (exact sz_dec (by kernel_rfl)); rintro e w6 ⟨b6, A6, n6, c6, A'6, n'6, c'6, rfl, h6, q6⟩
  replace h1 := h1.belw q6
  replace hF1 := hF1.belw q6
  replace h2 := h2.belw q6
  replace h3 := h3.belw q6
  replace hF2 := hF2.belw q6
  replace h4 := h4.belw q6
  replace h5 := h5.belw q6
  replace hF3 := hF3.belw q6
  replace x3a := x3a.b q6
  replace x5a := x5a.b q6
  have bw6 := bw5.trans (q6.mono bw5.size)
  have lw6 := q6.size
  clear q6 bw5
  go_wp2_with fail
  have hF4 := TV.frac h6
  (with_reducible refine (t_Add _ b5 A5 n5 c5 A'5 n'5 c'5 false (⟨(Rat.divInt 1 1), false⟩) (1) ?_ b6 A6 n6 c6 A'6 n'6 c'6 false (⟨(Rat.divInt 1 1), false⟩) (1) ?_ ?_ ?_ ?_ ?_).mono ?_); (exact hF3.tk); (exact hF4.tk); (first | omega | decide | assumption); (first | omega | decide | assumption); (first | omega | decide | assumption); (first | omega | decide | assumption); rintro e w7 ⟨b7, A7, n7, c7, A'7, n'7, c'7, x7, rfl, h7, q7⟩
  replace h1 := h1.belw q7
  replace hF1 := hF1.belw q7
  replace h2 := h2.belw q7
  replace h3 := h3.belw q7
  replace hF2 := hF2.belw q7
  replace h4 := h4.belw q7
  replace h5 := h5.belw q7
  replace hF3 := hF3.belw q7
  replace h6 := h6.belw q7
  replace hF4 := hF4.belw q7
  replace x3a := x3a.b q7
  replace x5a := x5a.b q7
  have bw7 := bw6.trans (q7.mono bw6.size)
  have lw7 := q7.size
  clear q7 bw6
  go_wp2_with fail
  obtain rfl : x7 = true := h7.2.1.trans aw_half
  rw [aw_cos] at h2
  rw [aw_sin] at h4
  have p8 := ((Kp.refl w7).alloc (.cells #[.bool b7, .slice A7 n7 c7, .slice A'7 n'7 c'7, .bool true] 28))
  have bw8 := (bw7.alloc (by first | omega | (simp <;> omega)) (.cells #[.bool b7, .slice A7 n7 c7, .slice A'7 n'7 c'7, .bool true] 28))
  have x8a : Blk (w7.alloc (.cells #[.bool b7, .slice A7 n7 c7, .slice A'7 n'7 c'7, .bool true] 28)) w7.heap.size 28 #[.bool b7, .slice A7 n7 c7, .slice A'7 n'7 c'7, .bool true] := (blkAt _ _ _ (by simp))
  replace x3a := (x3a.alloc (.cells #[.bool b7, .slice A7 n7 c7, .slice A'7 n'7 c'7, .bool true] 28))
  replace x5a := (x5a.alloc (.cells #[.bool b7, .slice A7 n7 c7, .slice A'7 n'7 c'7, .bool true] 28))
  have lw8 : w7.heap.size + 1 ≤ (w7.alloc (.cells #[.bool b7, .slice A7 n7 c7, .slice A'7 n'7 c'7, .bool true] 28)).heap.size := by simp
  generalize hE8 : (w7.alloc (.cells #[.bool b7, .slice A7 n7 c7, .slice A'7 n'7 c'7, .bool true] 28)) = w8 at p8 bw8 lw8 x8a x3a x5a ⊢
  clear hE8
  replace h1 := h1.keep p8
  replace hF1 := hF1.keep p8
  replace h2 := h2.keep p8
  replace h3 := h3.keep p8
  replace hF2 := hF2.keep p8
  replace h4 := h4.keep p8
  replace h5 := h5.keep p8
  replace hF3 := hF3.keep p8
  replace h6 := h6.keep p8
  replace hF4 := hF4.keep p8
  replace h7 := h7.keep p8
  clear bw7
  have cx3aa : w8.cell? ⟨w2.heap.size, 0, none⟩ = some (.bool b2) := x3a.cell 0
  have cx3ab : w8.cell? ⟨w2.heap.size, 1, none⟩ = some (.slice A2 n2 c2) := x3a.cell 1
  have cx3ac : w8.cell? ⟨w2.heap.size, 2, none⟩ = some (.slice A'2 n'2 c'2) := x3a.cell 2
  obtain ⟨lx3aa, lx3ab, lx3ac, lx3ad⟩ := lts0 x3a.lt
  have cx5aa : w8.cell? ⟨w4.heap.size, 0, none⟩ = some (.bool b4) := x5a.cell 0
  have cx5ab : w8.cell? ⟨w4.heap.size, 1, none⟩ = some (.slice A4 n4 c4) := x5a.cell 1
  have cx5ac : w8.cell? ⟨w4.heap.size, 2, none⟩ = some (.slice A'4 n'4 c'4) := x5a.cell 2
  obtain ⟨lx5aa, lx5ab, lx5ac, lx5ad⟩ := lts0 x5a.lt
  obtain ⟨cx8aa, cx8ab, cx8ac, cx8ad⟩ := x8a.c4
  obtain ⟨lx8aa, lx8ab, lx8ac, lx8ad⟩ := lts0 x8a.lt
  go_region_held3 (fun w' => Sees w8.heap.size w8 w') (first | with_reducible exact Sees.of (Nat.le_refl _) (by assumption) | with_reducible exact Sees.of (Nat.le_refl _) (brefl _).drew | exact Sees.of (Nat.le_refl _) (below_drewN (brefl _) 1) | exact Sees.of (Nat.le_refl _) (below_drewN (by assumption) _))
    (first
      | (go_at_call 18; (with_reducible refine (l_part _ (3) (5) (by decide) (by decide) (by decide) (by decide) (Rat.divInt 3 5) 1 ?_ ?_ ?_).mono ?_); (decide); (rfl); (exact sz_dec (by kernel_rfl)); rintro e w9 ⟨b9, A9, n9, c9, A'9, n'9, c'9, rfl, h9, hb9⟩; replace hb9 := bnext (below_drewN (brefl _) 1) hb9; have q9 : Below w8.heap.size w8 w9 := bnext (brefl w8) hb9; replace h1 := h1.belw hb9; replace hF1 := hF1.belw hb9; replace h2 := h2.belw hb9; replace h3 := h3.belw hb9; replace hF2 := hF2.belw hb9; replace h4 := h4.belw hb9; replace h5 := h5.belw hb9; replace hF3 := hF3.belw hb9; replace h6 := h6.belw hb9; replace hF4 := hF4.belw hb9; replace h7 := h7.belw hb9)
      | (go_at_call 21; (with_reducible refine (b_rat_e _ b2 A2 n2 c2 A'2 n'2 c'2 ((Rat.divInt 3 5)) (4 * (1) + 4) ?_ b9 A9 n9 c9 A'9 n'9 c'9 ((Rat.divInt 3 5)) (1) ?_  ?_ ?_).mono ?_); (exact h2); (exact h9); (rfl); (decide); rintro e w10 ⟨rfl, hb10⟩; have q10 : Below w8.heap.size w8 w10 := bnext q9 hb10; replace h1 := h1.belw hb10; replace hF1 := hF1.belw hb10; replace h2 := h2.belw hb10; replace h3 := h3.belw hb10; replace hF2 := hF2.belw hb10; replace h4 := h4.belw hb10; replace h5 := h5.belw hb10; replace hF3 := hF3.belw hb10; replace h6 := h6.belw hb10; replace hF4 := hF4.belw hb10; replace h7 := h7.belw hb10; replace h9 := h9.belw hb10)
      | (go_at_call 18; (with_reducible refine (l_part _ (4) (5) (by decide) (by decide) (by decide) (by decide) (Rat.divInt 4 5) 1 ?_ ?_ ?_).mono ?_); (decide); (rfl); (exact sz_dec (by kernel_rfl)); rintro e w11 ⟨b11, A11, n11, c11, A'11, n'11, c'11, rfl, h11, hb11⟩; have q11 : Below w8.heap.size w8 w11 := bnext q10 hb11; replace h1 := h1.belw hb11; replace hF1 := hF1.belw hb11; replace h2 := h2.belw hb11; replace h3 := h3.belw hb11; replace hF2 := hF2.belw hb11; replace h4 := h4.belw hb11; replace h5 := h5.belw hb11; replace hF3 := hF3.belw hb11; replace h6 := h6.belw hb11; replace hF4 := hF4.belw hb11; replace h7 := h7.belw hb11; replace h9 := h9.belw hb11)
      | (go_at_call 21; (with_reducible refine (b_rat_e _ b4 A4 n4 c4 A'4 n'4 c'4 ((Rat.divInt 4 5)) (4 * (1) + 4) ?_ b11 A11 n11 c11 A'11 n'11 c'11 ((Rat.divInt 4 5)) (1) ?_  ?_ ?_).mono ?_); (exact h4); (exact h11); (rfl); (decide); rintro e w12 ⟨rfl, hb12⟩; have q12 : Below w8.heap.size w8 w12 := bnext q11 hb12; replace h1 := h1.belw hb12; replace hF1 := hF1.belw hb12; replace h2 := h2.belw hb12; replace h3 := h3.belw hb12; replace hF2 := hF2.belw hb12; replace h4 := h4.belw hb12; replace h5 := h5.belw hb12; replace hF3 := hF3.belw hb12; replace h6 := h6.belw hb12; replace hF4 := hF4.belw hb12; replace h7 := h7.belw hb12; replace h9 := h9.belw hb12; replace h11 := h11.belw hb12))
  have bw12 := bw8.trans (q12.mono bw8.size)
  clear cx3aa cx3ab cx3ac lx3aa lx3ab lx3ac lx3ad cx5aa cx5ab cx5ac lx5aa lx5ab lx5ac lx5ad cx8aa cx8ab cx8ac cx8ad lx8aa lx8ab lx8ac lx8ad
  replace x3a := x3a.b q12
  replace x5a := x5a.b q12
  replace x8a := x8a.b q12
  have lw12 := q12.size
  go_wp2_with fail
  go_ret
  exact retB rfl bw12
end Go.Proofs.YtianjkiakkclgaaGreatDoor

/- The laws: rows of fractions and of turns. -/
namespace Go.Proofs.YtianjkiakkclgaaGreatDoor
open Go Go.RowKit Bn
attribute [local go_sem ↓] Go.wp_at_zero Go.wp_at_succ
theorem QD.short {w : World} {b : Bool} {A D : Option Addr} {n c m e k : Nat} {r : RD} (h : QD w b A n c D m e r k) (hs : n ≤ 6 ∧ m ≤ 6) : QD w b A n c D m e r 6 := ⟨h.1, h.2.1, h.2.2.1, hs.1, hs.2⟩
end Go.Proofs.YtianjkiakkclgaaGreatDoor

/- Walks: the texts of turns; turns that are not accepted. -/
namespace Go.Proofs.YtianjkiakkclgaaGreatDoor
open Go Go.RowKit Bn
attribute [local go_sem ↓] Go.wp_at_zero Go.wp_at_succ
def turnText (t : TN) : List UInt8 := if t.h then [104, 97, 108, 102] else ratText t.t
theorem t_Text_t (w : World) (b : Bool) (A : Option Addr) (n c : Nat) (D : Option Addr) (m e : Nat) (t : TN) (k : Nat) (h : TK w b A n c D m e true t k) (h0 : 0 < k) (hk : k ≤ 1000000) (htab : Tab w) :
  Calls Tryz.prog 16 #[.agg #[.bool b, .slice A n c, .slice D m e, .bool true]] w (RetV w (.tuple #[.string ⟨#[104, 97, 108, 102]⟩, .nilIface])) := by
 go_enter Tryz.func16, Tryz.ntmps16
 go_wp2_with fail
 (with_reducible refine (t_check _ b A n c D m e true (t) (k) ?_ ?_ ?_).mono ?_); (exact (h.belw ((Below.refl _ _).alloc (Nat.le_refl _) _))); (first | omega | decide | assumption); (first | omega | decide | assumption); rintro e w1 ⟨rfl, hb1⟩
 have q1 := ((Below.refl _ _).alloc (Nat.le_refl _) _).trans (hb1.mono (by simp))
 replace h := h.belw q1
 have x1a : Blk w1 w.heap.size 28 #[.bool b, .slice A n c, .slice D m e, .bool true] := (blkAt _ _ _ (by simp)).below hb1 (by simp)
 have bw1 := (brefl w).trans (q1.mono (brefl w).size)
 have lw1 : w.heap.size + 1 ≤ w1.heap.size := by have := hb1.size; simp at this; omega
 clear q1
 obtain ⟨cx1aa, cx1ab, cx1ac, cx1ad⟩ := x1a.c4
 obtain ⟨lx1aa, lx1ab, lx1ac, lx1ad⟩ := lts0 x1a.lt
 go_wp2_with fail
 go_ret2
 exact ⟨rfl, bw1⟩
theorem t_Text_f (w : World) (b : Bool) (A : Option Addr) (n c : Nat) (D : Option Addr) (m e : Nat) (t : TN) (k : Nat) (h : TK w b A n c D m e false t k) (h0 : 0 < k) (hk : k ≤ 1000000) (htab : Tab w) (T : List UInt8) (hT : ratText t.t = T) :
  Calls Tryz.prog 16 #[.agg #[.bool b, .slice A n c, .slice D m e, .bool false]] w (RetV w (.tuple #[strV T, .nilIface])) := by
 have HT := Lib.hid hT
 clear hT
 go_enter Tryz.func16, Tryz.ntmps16
 go_wp2_with fail
 (with_reducible refine (t_check _ b A n c D m e false (t) (k) ?_ ?_ ?_).mono ?_); (exact (h.belw ((Below.refl _ _).alloc (Nat.le_refl _) _))); (first | omega | decide | assumption); (first | omega | decide | assumption); rintro e w1 ⟨rfl, hb1⟩
 have q1 := ((Below.refl _ _).alloc (Nat.le_refl _) _).trans (hb1.mono (by simp))
 replace h := h.belw q1
 have x1a : Blk w1 w.heap.size 28 #[.bool b, .slice A n c, .slice D m e, .bool false] := (blkAt _ _ _ (by simp)).below hb1 (by simp)
 have bw1 := (brefl w).trans (q1.mono (brefl w).size)
 have lw1 : w.heap.size + 1 ≤ w1.heap.size := by have := hb1.size; simp at this; omega
 clear q1
 obtain ⟨cx1aa, cx1ab, cx1ac, cx1ad⟩ := x1a.c4
 obtain ⟨lx1aa, lx1ab, lx1ac, lx1ad⟩ := lts0 x1a.lt
 go_wp2_with fail
 (with_reducible refine (f_text _ b A n c D m e ((t).t) (k) ?_ (by omega) (by omega) (htab.belw bw1) T HT.out).mono ?_); (exact h.qz); rintro e w2 ⟨rfl, q2⟩
 clear cx1aa cx1ab cx1ac cx1ad lx1aa lx1ab lx1ac lx1ad
 replace h := h.belw q2
 replace x1a := x1a.b q2
 have bw2 := bw1.trans (q2.mono bw1.size)
 have lw2 := q2.size
 clear q2 bw1
 go_wp2_with fail
 go_ret2
 exact ⟨rfl, bw2⟩
theorem t_Text (w : World) (b : Bool) (A : Option Addr) (n c : Nat) (D : Option Addr) (m e : Nat) (x : Bool) (t : TN) (k : Nat) (h : TK w b A n c D m e x t k) (h0 : 0 < k) (hk : k ≤ 1000000) (htab : Tab w) (T : List UInt8) (hT : turnText t = T) : Calls Tryz.prog 16 #[.agg #[.bool b, .slice A n c, .slice D m e, .bool x]] w (RetV w (.tuple #[strV T, .nilIface])) := by
  subst hT
  cases x
  · have : turnText t = ratText t.t := if_neg (by rw [← h.2.1]; simp)
    rw [this]; exact t_Text_f w b A n c D m e t k h h0 hk htab _ rfl
  · have : turnText t = [104, 97, 108, 102] := if_pos h.2.1.symm
    rw [this]; exact t_Text_t w b A n c D m e t k h h0 hk htab
end Go.Proofs.YtianjkiakkclgaaGreatDoor

/- What is read of a short text has a text that is read again. Plain. -/
namespace Go.Proofs.YtianjkiakkclgaaGreatDoor
open Go Go.RowKit Bn Go.Lib
theorem tailS_le (F : List UInt8) : (tailS F).length ≤ F.length := by
  unfold tailS
  split <;> simp
theorem dec_sz {F B : List UInt8} (ho : decOk F B = true) (hl : F.length + B.length ≤ 64) : Sz (decQ F B) 12 := by
  obtain ⟨h1, h2, h3, h4⟩ := decOk_parts ho
  obtain ⟨X, hX⟩ : ∃ X : Nat, valZ (tailS F) = X := ⟨_, (Int.toNat_of_nonneg h2).symm⟩
  obtain ⟨J, hJ, hX2⟩ := dec_lt h1 hX
  have hB := decVal_lt h4
  have ht := tailS_le F
  have hp : (10 : Nat) ^ (J + B.length) ≤ 10 ^ 64 := Nat.pow_le_pow_right (by decide) (by omega)
  have hN : X * 10 ^ B.length + decVal B < 10 ^ (J + B.length) := by
    rw [Nat.pow_add]
    have : (X + 1) * 10 ^ B.length ≤ 10 ^ J * 10 ^ B.length := Nat.mul_le_mul_right _ hX2
    rw [Nat.add_mul, Nat.one_mul] at this
    omega
  have h64 : (10 : Nat) ^ 64 < 4294967296 ^ 12 := by decide
  have hb : (10 : Nat) ^ B.length ≤ 10 ^ 64 := Nat.pow_le_pow_right (by decide) (by omega)
  have e : decN F B = ((X * 10 ^ B.length + decVal B : Nat) : Int) := by
    unfold decN
    rw [hX, Int.natCast_add, Int.natCast_mul, Int.natCast_pow]; rfl
  unfold decQ
  rw [e]
  refine Sz_divInt ?_ ?_ (by decide)
  · split
    · rw [Int.natAbs_neg, Int.natAbs_natCast]; omega
    · rw [Int.natAbs_natCast]; omega
  · rw [show ((10 : Int) ^ B.length) = ((10 ^ B.length : Nat) : Int) by rw [Int.natCast_pow]; rfl, Int.natAbs_natCast]; omega
theorem text_sz {q : Rat} (hs : Sz q 12) : (ratText q).length ≤ 65536 := by
  have h1 := itoa_le (z := q.num) hs.1 (Nat.le_refl 12) (by decide)
  have h2 := itoa_le (z := (q.den : Int)) (k := 12) (by simpa using hs.2) (Nat.le_refl 12) (by decide)
  unfold ratText
  split
  · omega
  · rw [List.length_append, List.length_cons]; omega
theorem out_again {s : List UInt8} {q : Rat} (h : FracOut s 0 q) (hl : s.length ≤ 200) : FracOut (ratText q) 0 q := by
  refine ratText_out q ?_
  rcases h with ⟨h1, hx, _⟩ | ⟨F, B, _, hs, _, h64, ho, _, rfl⟩ | ⟨F, B, _, _, _, _, hx, _⟩ | ⟨F, B, _, _, hs, _, ho, _, rfl⟩ | ⟨F, B, _, _, _, _, _, hx, _⟩ | ⟨_, _, _, ho, _, rfl⟩ | ⟨_, _, _, _, hx, _⟩
  · exact absurd hx (by decide)
  · refine text_sz (dec_sz ho ?_)
    rw [hs, List.length_append, List.length_cons] at h64
    omega
  · exact absurd hx (by decide)
  · obtain ⟨h1, h2, h3, h4, h5⟩ := quoOk_parts ho
    rw [(frac_text h1 h2 h3).2 ⟨h4, h5⟩, ← hs]; omega
  · exact absurd hx (by decide)
  · unfold ratText
    rw [if_pos (by simp)]
    rw [show (((valZ s : Int) : Rat)).num = valZ s by simp, okZ_canon ho]; omega
  · exact absurd hx (by decide)
end Go.Proofs.YtianjkiakkclgaaGreatDoor

/- Walks: the laws' own small functions: good. -/
namespace Go.Proofs.YtianjkiakkclgaaGreatDoor
open Go Go.RowKit Bn
attribute [local go_sem ↓] Go.wp_at_zero Go.wp_at_succ
def RetGd (w : World) (N : Nat) (rs : Nat → RD) (xs : Nat → Bool) (e : Ending) (w' : World) : Prop := ∃ r : Bool, e = .returned (.bool r) ∧ (r = true → ∀ i, i < N → accT (rs i) (xs i) = true) ∧ Below w.heap.size w w'
theorem l_good (w : World) (g N k : Nat) (rs : Nat → RD) (xs : Nat → Bool) (h : Gs w g N k rs xs) (hN : N ≤ 1000) (h0 : 0 < k) (hk : k ≤ 30000000) :
  Calls Tryz.prog 15 #[.slice (some ⟨g, 0, none⟩) N N] w (RetGd w N rs xs) := by
 go_enter Tryz.func15, Tryz.ntmps15
 go_wp2_with fail
 go_loopw [7] (fun iv wr => ∃ i : Nat, i ≤ N ∧ iv = .int .i64 (i : Nat) ∧ (∀ j, j < i → accT (rs j) (xs j) = true) ∧ Below w.heap.size w wr) (fun iv _ => N - (intOf iv).toNat)
 case atStart => exact ⟨0, Nat.zero_le _, rfl, fun j hj => absurd hj (by omega), brefl w⟩
 case round =>
  obtain ⟨i, hi, rfl, hall, hb⟩ := hrel
  have HA := Lib.hid hall
  have HB := Lib.hid hb
  by_cases hlt : i < N
  ·have hw := h.belw hb
   obtain ⟨b, A, m, c, D, m', e, c0, c1, c2, c3, h5⟩ := hw.2 i hlt
   have hgl := hw.1
   obtain ⟨x, hx⟩ : ∃ x, xs i = x := ⟨_, rfl⟩
   rw [hx] at c3
   have HX := Lib.hid hx
   have H := Lib.hid h
   clear h hw hall hb hx
   go_wp2_with fail
   (with_reducible refine (g_check _ b A m c D m' e (rs i) k ?_ ?_ ?_ x).mono ?_); (exact h5.belw ((Below.refl _ _).alloc (Nat.le_refl _) _)); (exact h0); (exact hk); rintro e w1 ⟨rfl, hb1⟩
   have HB1 := Lib.hid (HB.out.trans ((((Below.refl _ _).alloc (Nat.le_refl _) _).trans (hb1.mono (by simp))).mono HB.out.size))
   clear hb1
   by_cases hacc : accT (rs i) x = true
   ·rw [if_pos hacc]
    have HC := Lib.hid hacc
    clear hacc
    go_wp2_with fail
    go_roundw
    case rel => exact ⟨i + 1, by omega, by go_num, fun j hj => by
     by_cases hji : j = i
     ·subst hji; rw [HX.out]; exact HC.out
     ·exact HA.out j (by omega), HB1.out⟩
    case measure => simp [intOf]; omega
   ·rw [if_neg hacc]
    clear hacc
    go_wp2_with fail
    go_ret
    exact ⟨false, rfl, (fun h => nomatch h), HB1.out⟩
  ·have hiN : i = N := by omega
   subst hiN
   clear h hall hb
   go_wp2_with fail
   go_ret
   exact ⟨true, rfl, fun _ => HA.out, HB.out⟩
end Go.Proofs.YtianjkiakkclgaaGreatDoor

/- Walks: TurnTexts. -/
namespace Go.Proofs.YtianjkiakkclgaaGreatDoor
open Go Go.RowKit Bn
attribute [local go_sem ↓] Go.wp_at_zero Go.wp_at_succ
theorem rs1 {w : World} {g : Nat} {T : TypeId} {b : Bool} {A : Option Addr} {n c : Nat} {D : Option Addr} {m e : Nat}
    (hb : Blk w g T #[.bool b, .slice A n c, .slice D m e]) : Rs w g 1 (fun _ : Nat => n) (fun _ : Nat => m) := by
  refine ⟨hb.lt, fun i hi => ?_⟩
  match i, hi with
  | 0, _ => exact ⟨_, _, _, _, _, hb.cell 0, hb.cell 1, hb.cell 2⟩
theorem gs1 {w : World} {g k : Nat} {T : TypeId} {b : Bool} {A : Option Addr} {n c : Nat} {D : Option Addr} {m e : Nat} {x : Bool} {r : RD}
    (hb : Blk w g T #[.bool b, .slice A n c, .slice D m e, .bool x]) (h : QD w b A n c D m e r k) : Gs w g 1 k (fun _ : Nat => r) (fun _ : Nat => x) := by
  refine ⟨hb.lt, fun i hi => ?_⟩
  match i, hi with
  | 0, _ => exact ⟨_, _, _, _, _, _, _, hb.cell 0, hb.cell 1, hb.cell 2, hb.cell 3, h⟩
theorem half_no {q : Rat} (h : FracOut halfS 0 q) : False := by
  rcases h with ⟨_, hx, _⟩ | ⟨F, B, _, hs, _⟩ | ⟨F, B, _, hs, _⟩ | ⟨F, B, _, _, hs, _⟩ | ⟨F, B, _, _, hs, _⟩ | ⟨_, _, _, h, _⟩ | ⟨_, _, _, _, hx, _⟩
  · cases hx
  · exact absurd (show (46 : UInt8) ∈ halfS by rw [hs]; simp) (by decide)
  · exact absurd (show (46 : UInt8) ∈ halfS by rw [hs]; simp) (by decide)
  · exact absurd (show (47 : UInt8) ∈ halfS by rw [hs]; simp) (by decide)
  · exact absurd (show (47 : UInt8) ∈ halfS by rw [hs]; simp) (by decide)
  · exact absurd h (by decide)
  · cases hx
theorem tx_out {q : Rat} (hs : Sz q 12) : FracOut (ratText q) 0 q := by
  refine ratText_out q ?_
  have h1 := itoa_le (z := q.num) hs.1 (Nat.le_refl 12) (by decide)
  have h2 := itoa_le (z := (q.den : Int)) (k := 12) (by simpa using hs.2) (Nat.le_refl 12) (by decide)
  by_cases h : q.den = 1
  · rw [ratText_1 h]; omega
  · rw [ratText_2 h, List.length_append, List.length_cons]; omega
theorem par_text {t : TN} (ho : t.ok) (h : t.h = false → FracOut (ratText t.t) 0 t.t) : ParOut (turnText t) 0 t := by
  obtain ⟨q, x⟩ := t
  cases x
  · have h9 : FracOut (ratText q) 0 q := h rfl
    exact .inr ⟨fun e => half_no (by have e : ratText q = halfS := e; rw [e] at h9; exact h9), q, h9, .inl ⟨rfl, rfl⟩⟩
  · have : q = 0 := ho rfl
    subst this
    exact .inl ⟨rfl, rfl, rfl⟩
theorem par_again {s : List UInt8} {t : TN} (h : ParOut s 0 t) (hl : s.length ≤ 200) : ParOut (turnText t) 0 t := by
  rcases h with ⟨_, _, rfl⟩ | ⟨_, q, hq, ⟨_, rfl⟩ | ⟨h3, _⟩⟩
  · exact .inl ⟨rfl, rfl, rfl⟩
  · exact par_text (fun e => nomatch e) (fun _ => out_again hq hl)
  · exact absurd rfl h3
theorem par_x {s : List UInt8} {x : Int} {t : TN} (h : ParOut s x t) (hx : x ≠ 0) : t = tzero := by
  rcases h with ⟨_, e, _⟩ | ⟨_, q, _, ⟨e, _⟩ | ⟨_, e⟩⟩
  · exact absurd e hx
  · exact absurd e hx
  · exact e
theorem tv_zero_form {w : World} {b x : Bool} {A D : Option Addr} {n c m e k : Nat} (h : TV w b A n c D m e x tzero k) : x = false ∧ n = 0 := by
  obtain ⟨h1, h2, _⟩ := h
  have h3 := h1.2.1.2.1
  rw [show rd tzero.t = ⟨false, [], []⟩ from rd_zero] at h3
  exact ⟨h2, h3⟩
theorem t_Parse_n (w : World) (s : List UInt8) (t : TN) (hmx : Mx w) (h : ParOut s 0 t) : Calls Tryz.prog 9 #[strV s] w (RetTe w .nilIface t 65536) := by
  have := t_Parse_o w s 0 t hmx h
  rw [eV0] at this
  exact this
theorem t_Parse_z (w : World) (s : List UInt8) (x : Int) (hx : x ≠ 0) (hmx : Mx w) (h : ParOut s x tzero) : Calls Tryz.prog 9 #[strV s] w (fun e w' => ∃ b A c A' n' c', e = .returned (.tuple #[.agg #[.bool b, .slice A 0 c, .slice A' n' c', .bool false], .iface 57 (.int .i64 x)]) ∧ Below w.heap.size w w') := by
  have := t_Parse_o w s x tzero hmx h
  rw [show errV x = .iface 57 (.int .i64 x) from if_neg hx] at this
  refine this.mono fun e w' ⟨b, A, n, c, A', n', c', x', h1, h2, h3⟩ => ?_
  obtain ⟨rfl, rfl⟩ := tv_zero_form h2
  exact ⟨b, A, c, A', n', c', h1, h3⟩
theorem t_Text_v (w : World) (b : Bool) (A : Option Addr) (n c : Nat) (D : Option Addr) (m e : Nat) (x : Bool) (t : TN) (k : Nat) (h : TK w b A n c D m e x t k) (h0 : 0 < k) (hk : k ≤ 1000000) (htab : Tab w) (T : List UInt8) (hT : turnText t = T) : Calls Tryz.prog 16 #[.agg #[.bool b, .slice A n c, .slice D m e, .bool x]] w (RetV w (.tuple #[strV T, .nilIface])) := t_Text w b A n c D m e x t k h h0 hk htab T hT
theorem l_TurnTexts (w : World) (b : Bool) (A : Option Addr) (n c : Nat) (D : Option Addr) (m e : Nat) (ra : RD) (k : Nat) (Hra : QD w b A n c D m e ra k) (x : Bool) (s : List UInt8) (_ : s.length < 9223372036854775808) (htab : Tab w) (hmx : Mx w) :
  Calls Tryz.prog 4 #[.agg #[.bool b, .slice A n c, .slice D m e, .bool x], strV s] w (RetV w (.bool true)) := by
 go_enter Tryz.func4, Tryz.ntmps4
 go_wp2_with fail
 (with_reducible refine (l_awake _).mono ?_); rintro e w1 ⟨rfl, hb1⟩
 have q1 := ((Below.refl _ _).alloc (Nat.le_refl _) _).trans (hb1.mono (by simp))
 replace Hra := Hra.belw q1
 have x1a : Blk w1 w.heap.size 28 #[.bool b, .slice A n c, .slice D m e, .bool x] := (blkAt _ _ _ (by simp)).below hb1 (by simp)
 have bw1 := (brefl w).trans (q1.mono (brefl w).size)
 have lw1 : w.heap.size + 1 ≤ w1.heap.size := by have := hb1.size; simp at this; omega
 clear q1
 obtain ⟨cx1aa, cx1ab, cx1ac, cx1ad⟩ := x1a.c4
 obtain ⟨lx1aa, lx1ab, lx1ac, lx1ad⟩ := lts0 x1a.lt
 go_wp2_with fail
 (with_reducible refine (l_short _ w1.heap.size 1 (fun i : Nat => n) (fun i : Nat => m) ?_ ?_).mono ?_); (exact rs1 (blkAt _ _ _ (by simp))); (decide); rintro e w2 ⟨r2, rfl, hr2, hb2⟩
 clear cx1aa cx1ab cx1ac cx1ad lx1aa lx1ab lx1ac lx1ad
 have q2 := ((Below.refl _ _).alloc (Nat.le_refl _) _).trans (hb2.mono (by simp))
 replace Hra := Hra.belw q2
 replace x1a := x1a.b q2
 have x2a : Blk w2 w1.heap.size 24 #[.bool b, .slice A n c, .slice D m e] := (blkAt _ _ _ (by simp)).below hb2 (by simp)
 have bw2 := bw1.trans (q2.mono bw1.size)
 have lw2 : w1.heap.size + 1 ≤ w2.heap.size := by have := hb2.size; simp at this; omega
 clear q2 bw1
 obtain ⟨cx1aa, cx1ab, cx1ac, cx1ad⟩ := x1a.c4
 obtain ⟨lx1aa, lx1ab, lx1ac, lx1ad⟩ := lts0 x1a.lt
 cases r2
 ·go_wp2_with fail
  (with_reducible refine (l_awake _).mono ?_); rintro e w3 ⟨rfl, q3⟩
  clear cx1aa cx1ab cx1ac cx1ad lx1aa lx1ab lx1ac lx1ad
  replace Hra := Hra.belw q3
  replace x1a := x1a.b q3
  replace x2a := x2a.b q3
  have bw3 := bw2.trans (q3.mono bw2.size)
  have lw3 := q3.size
  clear q3 bw2
  go_wp2_with fail
  go_ret
  exact retB rfl bw3
 ·have hs0 := hr2 rfl 0 (by decide)
  clear hr2
  replace Hra := QD.short Hra hs0
  clear hs0
  go_wp2_with fail
  (with_reducible refine (l_good _ w2.heap.size 1 (6) (fun i : Nat => (ra)) (fun i : Nat => x) ?_ ?_ ?_ ?_).mono ?_); (exact gs1 (blkAt _ _ _ (by simp)) ((Hra.belw ((Below.refl _ _).alloc (Nat.le_refl _) _)))); (first | omega | decide | assumption); (first | omega | decide | assumption); (first | omega | decide | assumption); rintro e w3 ⟨r3, rfl, hr3, hb3⟩
  clear cx1aa cx1ab cx1ac cx1ad lx1aa lx1ab lx1ac lx1ad
  have q3 := ((Below.refl _ _).alloc (Nat.le_refl _) _).trans (hb3.mono (by simp))
  replace Hra := Hra.belw q3
  replace x1a := x1a.b q3
  replace x2a := x2a.b q3
  have x3a : Blk w3 w2.heap.size 28 #[.bool b, .slice A n c, .slice D m e, .bool x] := (blkAt _ _ _ (by simp)).below hb3 (by simp)
  have bw3 := bw2.trans (q3.mono bw2.size)
  have lw3 : w2.heap.size + 1 ≤ w3.heap.size := by have := hb3.size; simp at this; omega
  clear q3 bw2
  obtain ⟨cx1aa, cx1ab, cx1ac, cx1ad⟩ := x1a.c4
  obtain ⟨lx1aa, lx1ab, lx1ac, lx1ad⟩ := lts0 x1a.lt
  cases r3
  ·go_wp2_with fail
   (with_reducible refine (l_awake _).mono ?_); rintro e w4 ⟨rfl, q4⟩
   clear cx1aa cx1ab cx1ac cx1ad lx1aa lx1ab lx1ac lx1ad
   replace Hra := Hra.belw q4
   replace x1a := x1a.b q4
   replace x2a := x2a.b q4
   replace x3a := x3a.b q4
   have bw4 := bw3.trans (q4.mono bw3.size)
   have lw4 := q4.size
   clear q4 bw3
   go_wp2_with fail
   go_ret
   exact retB rfl bw4
  ·have hTa : TK w3 b A n c D m e x ⟨ra.q, x⟩ 6 := acc_tk Hra (hr3 rfl 0 (by decide))
   clear hr3
   have hQz := QD.qz Hra
   have hsz := hQz.sz (by decide)
   have hok := hTa.2.2
   clear Hra hQz
   obtain ⟨T, hT⟩ : ∃ T, turnText ⟨ra.q, x⟩ = T := ⟨_, rfl⟩
   have hP := par_text hok (fun _ => tx_out ⟨Nat.lt_of_lt_of_le hsz.1 (Nat.pow_le_pow_right (by decide) (by decide)), Nat.lt_of_lt_of_le hsz.2 (Nat.pow_le_pow_right (by decide) (by decide))⟩)
   rw [hT] at hP
   have HT := Lib.hid hT
   have HP := Lib.hid hP
   clear hT hP hsz hok
   obtain ⟨X, V, hV⟩ := parOut s
   by_cases hl : 200 < s.length
   ·have f1 : ((200 : Int) < (s.length : Int)) = True := eq_true (by omega)
    clear hV
    go_wp2_with fail
    (with_reducible refine (l_awake _).mono ?_); rintro e w4 ⟨rfl, q4⟩
    clear cx1aa cx1ab cx1ac cx1ad lx1aa lx1ab lx1ac lx1ad
    replace hTa := hTa.belw q4
    replace x1a := x1a.b q4
    replace x2a := x2a.b q4
    replace x3a := x3a.b q4
    have bw4 := bw3.trans (q4.mono bw3.size)
    have lw4 := q4.size
    clear q4 bw3
    go_wp2_with fail
    go_ret
    exact retB rfl bw4
   ·have f1 : ((200 : Int) < (s.length : Int)) = False := eq_false (by omega)
    by_cases hx : X = 0
    ·subst hx
     obtain ⟨T2, hT2⟩ : ∃ T, turnText V = T := ⟨_, rfl⟩
     have hP2 := par_again hV (by omega)
     rw [hT2] at hP2
     have HT2 := Lib.hid hT2
     have HP2 := Lib.hid hP2
     have HV := Lib.hid hV
     clear hT2 hP2 hV
     go_wp2_with fail
     (with_reducible refine (t_Text_v _ b A n c D m e x (⟨ra.q, x⟩) (6) ?_ (by decide) (by decide) (htab.belw bw3) T HT.out).mono ?_); (exact hTa); rintro e w4 ⟨rfl, q4⟩
     clear cx1aa cx1ab cx1ac cx1ad lx1aa lx1ab lx1ac lx1ad
     replace hTa := hTa.belw q4
     replace x1a := x1a.b q4
     replace x2a := x2a.b q4
     replace x3a := x3a.b q4
     have bw4 := bw3.trans (q4.mono bw3.size)
     have lw4 := q4.size
     clear q4 bw3
     go_wp2_with fail
     (with_reducible refine (t_Parse_n _ (T) ⟨ra.q, x⟩ (hmx.belw bw4) HP.out).mono ?_); rintro e w5 ⟨b5, A5, n5, c5, A'5, n'5, c'5, x5, rfl, h5, q5⟩
     replace hTa := hTa.belw q5
     replace x1a := x1a.b q5
     replace x2a := x2a.b q5
     replace x3a := x3a.b q5
     have bw5 := bw4.trans (q5.mono bw4.size)
     have lw5 := q5.size
     clear q5 bw4
     obtain ⟨cx1aa, cx1ab, cx1ac, cx1ad⟩ := x1a.c4
     obtain ⟨lx1aa, lx1ab, lx1ac, lx1ad⟩ := lts0 x1a.lt
     go_wp2_with fail
     (with_reducible refine (g_same_e _ b A n c D m e x (⟨ra.q, x⟩) (6) ?_ b5 A5 n5 c5 A'5 n'5 c'5 x5 (⟨ra.q, x⟩) (65536) ?_ true ?_ ?_ ?_ ?_ ?_).mono ?_); (exact (hTa.belw ((Below.refl _ _).alloc (Nat.le_refl _) _))); (exact (h5.belw ((Below.refl _ _).alloc (Nat.le_refl _) _)).tk); (exact ⟨fun _ => rfl, fun _ => rfl⟩); (first | omega | decide | assumption); (first | omega | decide | assumption); (first | omega | decide | assumption); (first | omega | decide | assumption); rintro e w6 ⟨rfl, hb6⟩
     clear cx1aa cx1ab cx1ac cx1ad lx1aa lx1ab lx1ac lx1ad
     have q6 := ((Below.refl _ _).alloc (Nat.le_refl _) _).trans (hb6.mono (by simp))
     replace hTa := hTa.belw q6
     replace h5 := h5.belw q6
     replace x1a := x1a.b q6
     replace x2a := x2a.b q6
     replace x3a := x3a.b q6
     have x6a : Blk w6 w5.heap.size 28 #[.bool b5, .slice A5 n5 c5, .slice A'5 n'5 c'5, .bool x5] := (blkAt _ _ _ (by simp)).below hb6 (by simp)
     have bw6 := bw5.trans (q6.mono bw5.size)
     have lw6 : w5.heap.size + 1 ≤ w6.heap.size := by have := hb6.size; simp at this; omega
     clear q6 bw5
     go_wp2_with fail
     (with_reducible refine (t_Parse_n _ (s) V (hmx.belw bw6) HV.out).mono ?_); rintro e w7 ⟨b7, A7, n7, c7, A'7, n'7, c'7, x7, rfl, h7, q7⟩
     replace hTa := hTa.belw q7
     replace h5 := h5.belw q7
     replace x1a := x1a.b q7
     replace x2a := x2a.b q7
     replace x3a := x3a.b q7
     replace x6a := x6a.b q7
     have bw7 := bw6.trans (q7.mono bw6.size)
     have lw7 := q7.size
     clear q7 bw6
     go_wp2_with fail
     (with_reducible refine (t_Text_v _ b7 A7 n7 c7 A'7 n'7 c'7 x7 (V) (65536) ?_ (by decide) (by decide) (htab.belw (bw7.alloc (by first | omega | (simp <;> omega)) (.cells #[.bool b7, .slice A7 n7 c7, .slice A'7 n'7 c'7, .bool x7] 28))) T2 HT2.out).mono ?_); (exact (h7.belw ((Below.refl _ _).alloc (Nat.le_refl _) _)).tk); rintro e w8 ⟨rfl, hb8⟩
     have q8 := ((Below.refl _ _).alloc (Nat.le_refl _) _).trans (hb8.mono (by simp))
     replace hTa := hTa.belw q8
     replace h5 := h5.belw q8
     replace h7 := h7.belw q8
     replace x1a := x1a.b q8
     replace x2a := x2a.b q8
     replace x3a := x3a.b q8
     replace x6a := x6a.b q8
     have x8a : Blk w8 w7.heap.size 28 #[.bool b7, .slice A7 n7 c7, .slice A'7 n'7 c'7, .bool x7] := (blkAt _ _ _ (by simp)).below hb8 (by simp)
     have bw8 := bw7.trans (q8.mono bw7.size)
     have lw8 : w7.heap.size + 1 ≤ w8.heap.size := by have := hb8.size; simp at this; omega
     clear q8 bw7
     go_wp2_with fail
     (with_reducible refine (t_Parse_n _ (T2) V (hmx.belw bw8) HP2.out).mono ?_); rintro e w9 ⟨b9, A9, n9, c9, A'9, n'9, c'9, x9, rfl, h9, q9⟩
     replace hTa := hTa.belw q9
     replace h5 := h5.belw q9
     replace h7 := h7.belw q9
     replace x1a := x1a.b q9
     replace x2a := x2a.b q9
     replace x3a := x3a.b q9
     replace x6a := x6a.b q9
     replace x8a := x8a.b q9
     have bw9 := bw8.trans (q9.mono bw8.size)
     have lw9 := q9.size
     clear q9 bw8
     obtain ⟨cx8aa, cx8ab, cx8ac, cx8ad⟩ := x8a.c4
     obtain ⟨lx8aa, lx8ab, lx8ac, lx8ad⟩ := lts0 x8a.lt
     go_wp2_with fail
     (with_reducible refine (g_same_e _ b7 A7 n7 c7 A'7 n'7 c'7 x7 (V) (65536) ?_ b9 A9 n9 c9 A'9 n'9 c'9 x9 (V) (65536) ?_ true ?_ ?_ ?_ ?_ ?_).mono ?_); (exact (h7.belw ((Below.refl _ _).alloc (Nat.le_refl _) _)).tk); (exact (h9.belw ((Below.refl _ _).alloc (Nat.le_refl _) _)).tk); (exact ⟨fun _ => rfl, fun _ => rfl⟩); (first | omega | decide | assumption); (first | omega | decide | assumption); (first | omega | decide | assumption); (first | omega | decide | assumption); rintro e w10 ⟨rfl, hb10⟩
     clear cx8aa cx8ab cx8ac cx8ad lx8aa lx8ab lx8ac lx8ad
     have q10 := ((Below.refl _ _).alloc (Nat.le_refl _) _).trans (hb10.mono (by simp))
     replace hTa := hTa.belw q10
     replace h5 := h5.belw q10
     replace h7 := h7.belw q10
     replace h9 := h9.belw q10
     replace x1a := x1a.b q10
     replace x2a := x2a.b q10
     replace x3a := x3a.b q10
     replace x6a := x6a.b q10
     replace x8a := x8a.b q10
     have x10a : Blk w10 w9.heap.size 28 #[.bool b9, .slice A9 n9 c9, .slice A'9 n'9 c'9, .bool x9] := (blkAt _ _ _ (by simp)).below hb10 (by simp)
     have bw10 := bw9.trans (q10.mono bw9.size)
     have lw10 : w9.heap.size + 1 ≤ w10.heap.size := by have := hb10.size; simp at this; omega
     clear q10 bw9
     go_wp2_with fail
     go_ret
     exact retB rfl bw10
    ·obtain rfl := par_x hV hx
     have HV := Lib.hid hV
     have HN := Lib.hid hx
     clear hV hx
     go_wp2_with fail
     (with_reducible refine (t_Text_v _ b A n c D m e x (⟨ra.q, x⟩) (6) ?_ (by decide) (by decide) (htab.belw bw3) T HT.out).mono ?_); (exact hTa); rintro e w4 ⟨rfl, q4⟩
     clear cx1aa cx1ab cx1ac cx1ad lx1aa lx1ab lx1ac lx1ad
     replace hTa := hTa.belw q4
     replace x1a := x1a.b q4
     replace x2a := x2a.b q4
     replace x3a := x3a.b q4
     have bw4 := bw3.trans (q4.mono bw3.size)
     have lw4 := q4.size
     clear q4 bw3
     go_wp2_with fail
     (with_reducible refine (t_Parse_n _ (T) ⟨ra.q, x⟩ (hmx.belw bw4) HP.out).mono ?_); rintro e w5 ⟨b5, A5, n5, c5, A'5, n'5, c'5, x5, rfl, h5, q5⟩
     replace hTa := hTa.belw q5
     replace x1a := x1a.b q5
     replace x2a := x2a.b q5
     replace x3a := x3a.b q5
     have bw5 := bw4.trans (q5.mono bw4.size)
     have lw5 := q5.size
     clear q5 bw4
     obtain ⟨cx1aa, cx1ab, cx1ac, cx1ad⟩ := x1a.c4
     obtain ⟨lx1aa, lx1ab, lx1ac, lx1ad⟩ := lts0 x1a.lt
     go_wp2_with fail
     (with_reducible refine (g_same_e _ b A n c D m e x (⟨ra.q, x⟩) (6) ?_ b5 A5 n5 c5 A'5 n'5 c'5 x5 (⟨ra.q, x⟩) (65536) ?_ true ?_ ?_ ?_ ?_ ?_).mono ?_); (exact (hTa.belw ((Below.refl _ _).alloc (Nat.le_refl _) _))); (exact (h5.belw ((Below.refl _ _).alloc (Nat.le_refl _) _)).tk); (exact ⟨fun _ => rfl, fun _ => rfl⟩); (first | omega | decide | assumption); (first | omega | decide | assumption); (first | omega | decide | assumption); (first | omega | decide | assumption); rintro e w6 ⟨rfl, hb6⟩
     clear cx1aa cx1ab cx1ac cx1ad lx1aa lx1ab lx1ac lx1ad
     have q6 := ((Below.refl _ _).alloc (Nat.le_refl _) _).trans (hb6.mono (by simp))
     replace hTa := hTa.belw q6
     replace h5 := h5.belw q6
     replace x1a := x1a.b q6
     replace x2a := x2a.b q6
     replace x3a := x3a.b q6
     have x6a : Blk w6 w5.heap.size 28 #[.bool b5, .slice A5 n5 c5, .slice A'5 n'5 c'5, .bool x5] := (blkAt _ _ _ (by simp)).below hb6 (by simp)
     have bw6 := bw5.trans (q6.mono bw5.size)
     have lw6 : w5.heap.size + 1 ≤ w6.heap.size := by have := hb6.size; simp at this; omega
     clear q6 bw5
     go_wp2_with fail
     (with_reducible refine (t_Parse_z _ s X HN.out (hmx.belw bw6) HV.out).mono ?_); rintro e w7 ⟨b7, A7, c7, A'7, n'7, c'7, rfl, q7⟩
     replace hTa := hTa.belw q7
     replace h5 := h5.belw q7
     replace x1a := x1a.b q7
     replace x2a := x2a.b q7
     replace x3a := x3a.b q7
     replace x6a := x6a.b q7
     have bw7 := bw6.trans (q7.mono bw6.size)
     have lw7 := q7.size
     clear q7 bw6
     go_wp2_with fail
     go_ret
     exact retB rfl (bw7.alloc (by first | omega | (simp <;> omega)) (.cells #[.bool b7, .slice A7 0 c7, .slice A'7 n'7 c'7, .bool false] 28))
end Go.Proofs.YtianjkiakkclgaaGreatDoor

/- The arguments of a row opened: integers, fractions and turns that came in. -/
namespace Go.Proofs.YtianjkiakkclgaaGreatDoor
open Go Go.RowKit Bn Go.ChangeShapes Go.WideShapes

theorem args_again {H : Type} {enc : TypeId × Value → H} {W : World} {P : Program} (hl : laidOutB P = true) {W' : World} (hb : Below W.heap.size W W') : ∀ {ts : List TypeId} {vs : List Value} {ds : List (DataW H)} {ps : List MemPlace}, (ts.all fun t => P.readableRec t && decide (t < P.types.size)) = true →
    DataW.TrodAll enc P W 0 (fun _ => true) true ts vs ds ps → DataW.TrodAll enc P W' 0 (fun b => decide (b < W.heap.size)) true ts vs ds ps
  | [], [], [], _, _, h => h
  | _ :: _, _ :: _, _ :: _, _, hr, h => by
    have hlt := h.lt
    obtain ⟨p, q, h1, h2, e⟩ := h
    rw [List.all_cons, Bool.and_eq_true, Bool.and_eq_true, decide_eq_true_eq] at hr
    exact ⟨p, q, Below.trod hl hr.1.1 hr.1.2 h1 hb (fun x hx => hlt x (by rw [e]; exact List.mem_append_left _ hx)), args_again hl hb hr.2 h2, e⟩
  | [], [], _ :: _, _, _, h => h.elim
  | [], _ :: _, _, _, _, h => h.elim
  | _ :: _, [], _, _, _, h => h.elim
  | _ :: _, _ :: _, [], _, _, h => h.elim
theorem law_post {H : Type} {enc : TypeId × Value → H} {W : World} {P : Program} {B : TypeId} {f : Func} {s : ChangeSpec} {W' : World} {args : Array Value} {ds : List (DataW H)} {before : List MemPlace} (hl : laidOutB P = true) (hB : P.underlying B = some .bool)
    (hW : DataW.Whole enc P f.params.toList s.vars false W args.toList ds [] before) (hv : s.vars = []) (hr : f.resultTypes = #[B]) (hp : (f.params.toList.all fun t => P.readableRec t && decide (t < P.types.size)) = true)
    (hres : (s.fn H (ds ++ [])).results = [.lit (.bool true)]) (hargs : (s.fn H (ds ++ [])).args = ds) (hvars : (s.fn H (ds ++ [])).vars = []) (hb : Below W.heap.size W W') :
    s.post enc P f false true false false W args (.bool true) W' := by
  have hW' := hW
  obtain ⟨p, q, hA, hV, rfl, _, _⟩ := hW
  have hV' := hV
  rw [hv] at hV'
  obtain ⟨_, rfl⟩ := trodVars_none hV'
  refine ⟨ds, [], _, [], p, [], hW', ?_, ?_, ?_, hb.frame _, fun h => by cases h⟩
  · rw [hr, hres]
    exact trodAll_mk1 (shut_bool hB _)
  · rw [hargs]
    exact args_again hl hb hp hA
  · rw [hv, hvars]
    rfl
def bareB (p : Program) (fits : TypeId → Bool) : Nat → TypeId → Bool
  | 0, _ => true
  | d + 1, e => !fits e && match p.underlying e with
    | some (.struct fs) => fs.all fun f => bareB p fits d f.type
    | some (.array _ e') => bareB p fits d e'
    | _ => true
theorem rowAt_bare {p : Program} {fits : TypeId → Bool} : ∀ (d : Nat) (e : TypeId) (count off n : Nat), bareB p fits d e = true → rowAt p fits d e count off n = false := by
  intro d
  induction d with
  | zero => intro e count off n _; rfl
  | succ d ih =>
    intro e count off n h
    unfold bareB at h
    rw [Bool.and_eq_true] at h
    obtain ⟨h1, h2⟩ := h
    have h1 : fits e = false := by simpa using h1
    unfold rowAt
    dsimp only
    split
    · rfl
    · rw [h1, Bool.and_false, Bool.false_or]
      split at h2
      · rename_i fs hu
        rw [hu]
        dsimp only
        have : (fs.any fun f => decide (f.offset ≤ off % p.cellsOf e) && decide (off % p.cellsOf e < f.offset + p.cellsOf f.type) && rowAt p fits d f.type 1 (off % p.cellsOf e - f.offset) n) = false := by
          rw [Array.any_eq_false]
          intro i hi
          have := Array.all_eq_true.1 h2 i hi
          rw [ih _ _ _ _ this]; simp
        rw [this]; simp
      · rename_i m e' hu
        rw [hu]
        dsimp only
        rw [ih _ _ _ _ h2]; simp
      · rename_i hn1 hn2
        split
        · rename_i fs hu; exact absurd hu (hn1 _)
        · rename_i m e' hu; exact absurd hu (hn2 _ _)
        · simp
theorem lies_u32 {e : TypeId} {count off n : Nat} (h : bareB Tryz.prog (sameLayout Tryz.prog Tryz.prog.depth · 100) Tryz.prog.depth e = true) : liesAt Tryz.prog Tryz.prog.depth e count off 100 n = false := by
  have : ∀ d, liesAt Tryz.prog d e count off 100 n = false := by
    intro d
    cases d with
    | zero => rfl
    | succ d =>
      unfold liesAt
      rw [rowAt_bare _ _ _ _ _ h, Tryz.underlying100]
      rfl
  exact this _
theorem bare_rat : bareB Tryz.prog (sameLayout Tryz.prog Tryz.prog.depth · 100) Tryz.prog.depth 24 = true := by kernel_rfl
theorem bare_turn : bareB Tryz.prog (sameLayout Tryz.prog Tryz.prog.depth · 100) Tryz.prog.depth 28 = true := by kernel_rfl
theorem bare_place : bareB Tryz.prog (sameLayout Tryz.prog Tryz.prog.depth · 100) Tryz.prog.depth 35 = true := by kernel_rfl
theorem bare_whole : bareB Tryz.prog (sameLayout Tryz.prog Tryz.prog.depth · 100) Tryz.prog.depth 77 = true := by kernel_rfl
theorem joined_parts {P : Program} {f : FuncId} {fn : Func} {s : ChangeSpec} {c : OpenClaim}
    (h1 : (c.wf (OpenSpec.ofChange s) && laidOutB P && mapsRowed P && fn.params.all (P.readableRec ·) && namedTie P c.named s.vars && (c.stops == []) && (P.stops == []) && (c.knobs == []) && (P.stopKnobs == [])) = true)
    (h2 : (c.inPlace == P.inPlace f) = true) (h3 : (c.unfollowed == P.unfollowed f) = true) (h4 : (c.recurses == P.recurses f) = true) (h5 : (c.named == P.varsNamed f) = true)
    (h6 : ((c.maps == (fn.params.toList ++ s.plain.varTypes P).any (P.mapsRec ·)) && (c.ifaces == (fn.params.toList ++ s.plain.varTypes P).any (P.ifacesRec ·)) && (c.mapsOut == P.mapsAmong fn.resultTypes.toList) &&
      (c.loops == (fn.params.toList ++ s.plain.varTypes P).any (P.loopsFrom ·)) && (c.wideKeys == (fn.params.toList ++ s.plain.varTypes P ++ fn.resultTypes.toList).any (P.wideKeysFrom ·)) &&
      s.vars.all (P.varReadable ·) && fn.resultTypes.all (fun t => P.readableRec t && decide (t < P.types.size)) && (c.ifacesOut == fn.resultTypes.toList.any (P.ifacesRec ·)) && (c.loopsOut == fn.resultTypes.toList.any (P.loopsFrom ·)) && (c.plainKeys == P.plainKeys) && c.shortTexts.isNone && P.stopsHeard && P.mayEnter && (c.lifted == P.liftsFinal) && (P.make == some c.make) && (c.kinds == (if c.domain.isEmpty then [] else fn.params.toList.map fun t => match P.underlying t with | some (.int k) => some k | _ => none)) && (c.pinned == c.pinnedBy) &&
      (c.veiled == (fn.params.toList ++ s.plain.varTypes P ++ fn.resultTypes.toList).any (P.veiledRec ·)) && c.veiledFits P fn.params.toList (fn.params.toList ++ s.plain.varTypes P ++ fn.resultTypes.toList)) = true) : joinedFacts P f fn s c = true := by
  unfold joinedFacts
  simp only [Bool.and_eq_true] at h1 h6 ⊢
  obtain ⟨⟨⟨⟨⟨⟨⟨⟨a0, a1⟩, a2⟩, a3⟩, a4⟩, a5⟩, a6⟩, a7⟩, a8⟩ := h1
  obtain ⟨⟨⟨⟨⟨⟨⟨⟨⟨⟨⟨⟨⟨⟨⟨⟨⟨⟨b0, b1⟩, b2⟩, b3⟩, b4⟩, b5⟩, b6⟩, b7⟩, b8⟩, b9⟩, b10⟩, b11⟩, b12⟩, b13⟩, b14⟩, b15⟩, b16⟩, b17⟩, b18⟩ := h6
  exact ⟨⟨⟨⟨⟨⟨⟨⟨⟨⟨⟨⟨⟨⟨⟨⟨⟨⟨⟨⟨⟨⟨⟨⟨⟨⟨⟨⟨⟨⟨⟨a0, a1⟩, a2⟩, a3⟩, a4⟩, a5⟩, a6⟩, a7⟩, a8⟩, h2⟩, h3⟩, h4⟩, h5⟩, b0⟩, b1⟩, b2⟩, b3⟩, b4⟩, b5⟩, b6⟩, b7⟩, b8⟩, b9⟩, b10⟩, b11⟩, b12⟩, b13⟩, b14⟩, b15⟩, b16⟩, b17⟩, b18⟩
theorem kt_of_lies {e : TypeId} {count off n : Nat} (h : liesAt Tryz.prog Tryz.prog.depth e count off 100 n = true) : KT e = true := by
  unfold KT
  by_cases h1 : e = 77
  · subst h1; rw [lies_u32 bare_whole] at h; cases h
  by_cases h2 : e = 24
  · subst h2; rw [lies_u32 bare_rat] at h; cases h
  by_cases h3 : e = 28
  · subst h3; rw [lies_u32 bare_turn] at h; cases h
  by_cases h4 : e = 35
  · subst h4; rw [lies_u32 bare_place] at h; cases h
  simp [h1
   , h2
   , h3
   , h4
    ]
section
variable {H : Type} {enc : TypeId × Value → H} {W : World} {base : Nat}
theorem words_open {v : Value} {fuel : Nat} {x : DataW H × List MemPlace} (hok : Cell.okWide Tryz.prog W .any base 22 v) (ht : DataW.trod enc Tryz.prog W 0 (fun _ => true) true fuel 22 [v] = some x) :
    ∃ A n c l, v = .slice A n c ∧ Wd W A n c l := by
  rcases open_ints Tryz.underlying22 Tryz.underlying100 (by kernel_rfl) ht with ⟨hv, _⟩ | ⟨a, len, cap, zs, hv, _, hl, _, hz, _, hc, hwf⟩
  · injection hv with hv _
    exact ⟨none, 0, 0, [], hv, Wd.nil_ W⟩
  · injection hv with hv _
    subst hv
    have hz : zs.length = cap := by simpa using hz
    have h0 : ∀ i, i < zs.length → 0 ≤ zs.getD i 0 ∧ zs.getD i 0 ≤ 4294967295 := by
      intro i hi
      have h1 := hwf (zs.getD i 0) (by rw [List.getD_eq_getElem?_getD, List.getElem?_eq_getElem hi]; simp)
      simpa [Lit.wf, IntKind.min, IntKind.max, IntKind.signed, IntKind.bits] using h1
    refine ⟨some a, len, cap, (zs.take len).map Int.toNat, rfl, ?_, ?_, hl, fun hn => ?_⟩
    · intro y hy
      obtain ⟨z, hz1, rfl⟩ := List.mem_map.1 hy
      obtain ⟨i, hi, he⟩ := List.getElem_of_mem hz1
      have hi2 : i < zs.length := by rw [List.length_take] at hi; omega
      have h1 := h0 i hi2
      rw [List.getD_eq_getElem?_getD, List.getElem?_eq_getElem hi2] at h1
      rw [List.getElem_take] at he
      simp only [Option.getD_some] at h1
      rw [he] at h1
      omega
    · rw [List.length_map, List.length_take]; omega
    · unfold Cell.okWide at hok
      rw [Tryz.underlying22] at hok
      unfold Cell.ok at hok
      rw [Tryz.underlying22] at hok
      obtain ⟨_, _, _, hs, row, cells, hsh, hli⟩ := hok
      unfold World.shape? at hsh
      split at hsh
      · rename_i cur el fr hb
        injection hsh with hsh; injection hsh with e1 e2
        subst e1
        obtain ⟨g, o, sp⟩ := a
        dsimp only at hs
        subst hs
        have hr : RowW W g cur fr := ⟨el, kt_of_lies hli, hb⟩
        refine ⟨g, o, cur, fr, rfl, hr, fun i hi => ?_⟩
        have h1 := hc i (by omega)
        have h2 := h0 i (by omega)
        have e3 : (⟨g, o, none⟩ : Addr).add i = ⟨g, o + i, none⟩ := by unfold Addr.add; by_cases hi0 : i = 0 <;> simp [hi0]
        rw [e3, hr.cell] at h1
        rw [h1]
        have e4 : wd ((zs.take len).map Int.toNat) i = (zs.getD i 0).toNat := by
          unfold wd
          rw [List.getD_eq_getElem?_getD, List.getElem?_map, List.getElem?_take, if_pos hi, List.getD_eq_getElem?_getD]
          rcases zs[i]? with _ | z <;> rfl
        rw [e4, Int.toNat_of_nonneg h2.1]
      · cases hsh
theorem rat_open {v0 v1 v2 : Value} {fuel : Nat} {x : DataW H × List MemPlace} (o1 : Cell.okWide Tryz.prog W .any base 22 v1) (o2 : Cell.okWide Tryz.prog W .any base 22 v2)
    (ht : DataW.trod enc Tryz.prog W 0 (fun _ => true) true fuel 24 [v0, v1, v2] = some x) :
    ∃ b A n c D m e r k, v0 = .bool b ∧ v1 = .slice A n c ∧ v2 = .slice D m e ∧ QD W b A n c D m e r k := by
  obtain ⟨xs, n, _, _, _, hxl, hf⟩ := DataW.trod_struct Tryz.underlying24 ht
  have f0 : DataW.trod enc Tryz.prog W 0 (fun _ => true) true n 4 (List.take (Tryz.prog.cellsOf 4) [v0, v1, v2]) = xs[0]? := hf 0 _ rfl
  have f1 : DataW.trod enc Tryz.prog W 0 (fun _ => true) true n 22 (List.take (Tryz.prog.cellsOf 22) [v1, v2]) = xs[1]? := hf 1 _ rfl
  have f2 : DataW.trod enc Tryz.prog W 0 (fun _ => true) true n 22 (List.take (Tryz.prog.cellsOf 22) [v2]) = xs[2]? := hf 2 _ rfl
  have c1 : Tryz.prog.cellsOf 22 = 1 := by kernel_rfl
  have c0 : Tryz.prog.cellsOf 4 = 1 := by kernel_rfl
  try dsimp only at f0 f1 f2
  rw [c0] at f0
  rw [c1] at f1 f2
  have hx0 : xs.length = 3 := hxl
  rw [List.getElem?_eq_getElem (show 0 < xs.length by omega)] at f0
  rw [List.getElem?_eq_getElem (show 1 < xs.length by omega)] at f1
  rw [List.getElem?_eq_getElem (show 2 < xs.length by omega)] at f2
  obtain ⟨b, hb, _⟩ := DataW.trod_bool Tryz.underlying4 f0
  obtain ⟨A, n1, cc, l, rfl, h1⟩ := words_open o1 f1
  obtain ⟨D, m, e, l', rfl, h2⟩ := words_open o2 f2
  injection hb with hb _
  exact ⟨b, A, n1, cc, D, m, e, ⟨b, l, l'⟩, max n1 m, hb, rfl, rfl, rfl, h1, h2, Nat.le_max_left _ _, Nat.le_max_right _ _⟩
theorem cells_ok {t : TypeId} {fs : Array Field} {ts : List TypeId} {v : Value} (hu : Tryz.prog.underlying t = some (.struct fs)) (hts : Tryz.prog.cellTypes Tryz.prog.depth t = some ts) (hn : Tryz.prog.cellsOf t = ts.length) (h : Value.okWide Tryz.prog W .any base t v) :
    ∃ cs : Array Value, v = .agg cs ∧ cs.size = ts.length ∧ ∀ (i : Nat) (v : Value) (u : TypeId), cs[i]? = some v → ts[i]? = some u → Cell.okWide Tryz.prog W .any base u v := by
  unfold Value.okWide at h
  rw [hu] at h
  obtain ⟨cs, rfl, hsz, ts', hts', _, hc⟩ := h
  rw [hts] at hts'
  injection hts' with e
  subst e
  rw [hn] at hsz
  refine ⟨cs, rfl, hsz, fun i v u hi hu => ?_⟩
  obtain ⟨u', h1, h2⟩ := hc i v hi
  have hlt : i < ts.length := by rw [← hsz]; exact (Array.getElem?_eq_some_iff.1 hi).1
  rw [Nat.mod_eq_of_lt hlt, hu] at h1
  injection h1 with h1
  subst h1
  exact h2
theorem turn_open {v : Value} {d : DataW H} {p : List MemPlace} (hok : Value.okWide Tryz.prog W .any base 28 v) (h : DataW.Trod enc Tryz.prog W 0 (fun _ => true) true 28 v d p) :
    ∃ b A n c D m e r k y, v = .agg #[.bool b, .slice A n c, .slice D m e, .bool y] ∧ QD W b A n c D m e r k := by
  obtain ⟨cs, rfl, hsz, hc⟩ := cells_ok (ts := [4, 22, 22, 4]) Tryz.underlying28 (by kernel_rfl) (by kernel_rfl) hok
  obtain ⟨fuel, h⟩ := h
  obtain ⟨l⟩ := cs
  match l, hsz with
  | [v0, v1, v2, v3], _ =>
    obtain ⟨xs, n, _, _, _, hxl, hf⟩ := DataW.trod_struct Tryz.underlying28 h
    have f0 : DataW.trod enc Tryz.prog W 0 (fun _ => true) true n 24 (List.take (Tryz.prog.cellsOf 24) [v0, v1, v2, v3]) = xs[0]? := hf 0 _ rfl
    have f1 : DataW.trod enc Tryz.prog W 0 (fun _ => true) true n 4 (List.take (Tryz.prog.cellsOf 4) [v3]) = xs[1]? := hf 1 _ rfl
    have c0 : Tryz.prog.cellsOf 24 = 3 := by kernel_rfl
    have c1 : Tryz.prog.cellsOf 4 = 1 := by kernel_rfl
    try dsimp only at f0 f1
    rw [c0] at f0
    rw [c1] at f1
    have hx0 : xs.length = 2 := hxl
    rw [List.getElem?_eq_getElem (show 0 < xs.length by omega)] at f0
    rw [List.getElem?_eq_getElem (show 1 < xs.length by omega)] at f1
    obtain ⟨y, hy, _⟩ := DataW.trod_bool Tryz.underlying4 f1
    injection hy with hy _
    have hy : v3 = .bool y := hy
    obtain ⟨b, A, n1, cc, D, m, e, r, k, rfl, rfl, rfl, hq⟩ := rat_open (hc 1 v1 _ rfl rfl) (hc 2 v2 _ rfl rfl) f0
    subst hy
    exact ⟨b, A, n1, cc, D, m, e, r, k, y, rfl, hq⟩
end
theorem mx_of_shaped {W : World} (h : W.ShapedOpen Tryz.prog) : ∃ m, W.cell? ⟨0, 0, none⟩ = some (.int .i64 m) :=
  Go.Proofs.cell_of_shapedOpen_int (P := Tryz.prog) (g := 0) (t := 3) (zero := #[.int .i64 0]) h (of_decide_eq_true (by kernel_rfl)) (by kernel_rfl) rfl (by kernel_rfl) (by kernel_rfl) Tryz.underlying3
theorem g_pow : Tryz.prog.globalNamed "internal/strconv.uint64pow10" = some 5 := by kernel_rfl
theorem ty_pow : (Tryz.prog.globals[5]?).map (·.type) = some 197 := by kernel_rfl
theorem cells_pow : Tryz.prog.cellsOf 197 = 20 := by kernel_rfl
theorem cells_u64 : Tryz.prog.cellsOf 109 = 1 := by kernel_rfl
theorem pow_data {H : Type} : (Rows.laid_internal_strconv_uint64pow10 : DataW H) = Lib.tabData .u64 Lib.pow10Tab := by kernel_rfl
theorem tab_of_laid {rest : List (String × DataW Unit)} {W : World} (h : laidMet Tryz.prog (("math/bits.deBruijn32tab", Rows.laid_math_bits_deBruijn32tab) :: ("math/bits.deBruijn64tab", Rows.laid_math_bits_deBruijn64tab) :: ("internal/strconv.uint64pow10", Rows.laid_internal_strconv_uint64pow10) :: rest) W) : Tab W := by
  obtain ⟨ps, ⟨_, _, _, _, _, _, _, _, _, _, ⟨_, _, _, _, _, _, _, _, _, _, ⟨g, t, cs, f, p, q, hg, ht, hv, hd, _, _⟩, _⟩, _⟩, _, _⟩ := h
  obtain rfl := Option.some.inj (g_pow.symm.trans hg)
  obtain rfl := Option.some.inj (ty_pow.symm.trans ht)
  rw [pow_data] at hd
  unfold Tab Lib.TabIs
  rw [hv, ← Lib.cells_of_tab Tryz.underlying197 Tryz.underlying109 cells_u64 cells_pow hd]
noncomputable def low : Nat := (World.holding Tryz.prog default ⟨#[], #[], []⟩).heap.size
noncomputable def laidWorld (os : Os) : World :=
  let w0 := World.holding Tryz.prog os ⟨#[.cells #[.string ⟨#[118, 97, 108, 117, 101, 32, 111, 117, 116, 32, 111, 102, 32, 114, 97, 110, 103, 101]⟩] 195, .cells #[.string ⟨#[105, 110, 118, 97, 108, 105, 100, 32, 115, 121, 110, 116, 97, 120]⟩] 195], #[], []⟩
  { w0 with heap := (((((((w0.heap.modify 5 fun
      | .cells _ t frozen => .cells (#[.int .u64 1, .int .u64 10, .int .u64 100, .int .u64 1000, .int .u64 10000, .int .u64 100000, .int .u64 1000000, .int .u64 10000000, .int .u64 100000000, .int .u64 1000000000, .int .u64 10000000000, .int .u64 100000000000, .int .u64 1000000000000, .int .u64 10000000000000, .int .u64 100000000000000, .int .u64 1000000000000000, .int .u64 10000000000000000, .int .u64 100000000000000000, .int .u64 1000000000000000000, .int .u64 10000000000000000000]) t frozen
      | o => o).modify 6 fun
      | .cells _ t frozen => .cells (#[.int .u8 0, .int .u8 1, .int .u8 28, .int .u8 2, .int .u8 29, .int .u8 14, .int .u8 24, .int .u8 3, .int .u8 30, .int .u8 22, .int .u8 20, .int .u8 15, .int .u8 25, .int .u8 17, .int .u8 4, .int .u8 8, .int .u8 31, .int .u8 27, .int .u8 13, .int .u8 23, .int .u8 21, .int .u8 19, .int .u8 16, .int .u8 7, .int .u8 26, .int .u8 12, .int .u8 18, .int .u8 6, .int .u8 11, .int .u8 5, .int .u8 10, .int .u8 9]) t frozen
      | o => o).modify 7 fun
      | .cells _ t frozen => .cells (#[.int .u8 0, .int .u8 1, .int .u8 56, .int .u8 2, .int .u8 57, .int .u8 49, .int .u8 28, .int .u8 3, .int .u8 61, .int .u8 58, .int .u8 42, .int .u8 50, .int .u8 38, .int .u8 29, .int .u8 17, .int .u8 4, .int .u8 62, .int .u8 47, .int .u8 59, .int .u8 36, .int .u8 45, .int .u8 43, .int .u8 51, .int .u8 22, .int .u8 53, .int .u8 39, .int .u8 33, .int .u8 30, .int .u8 24, .int .u8 18, .int .u8 12, .int .u8 5, .int .u8 63, .int .u8 55, .int .u8 48, .int .u8 27, .int .u8 60, .int .u8 41, .int .u8 37, .int .u8 16, .int .u8 46, .int .u8 35, .int .u8 44, .int .u8 21, .int .u8 52, .int .u8 32, .int .u8 23, .int .u8 11, .int .u8 54, .int .u8 26, .int .u8 40, .int .u8 15, .int .u8 34, .int .u8 20, .int .u8 31, .int .u8 10, .int .u8 25, .int .u8 14, .int .u8 19, .int .u8 9, .int .u8 13, .int .u8 8, .int .u8 7, .int .u8 6]) t frozen
      | o => o).modify 4 fun
      | .cells _ t frozen => .cells (#[.int .u8 128, .int .u8 191, .int .u8 160, .int .u8 191, .int .u8 128, .int .u8 159, .int .u8 144, .int .u8 191, .int .u8 128, .int .u8 143, .int .u8 0, .int .u8 0, .int .u8 0, .int .u8 0, .int .u8 0, .int .u8 0, .int .u8 0, .int .u8 0, .int .u8 0, .int .u8 0, .int .u8 0, .int .u8 0, .int .u8 0, .int .u8 0, .int .u8 0, .int .u8 0, .int .u8 0, .int .u8 0, .int .u8 0, .int .u8 0, .int .u8 0, .int .u8 0]) t frozen
      | o => o).modify 3 fun
      | .cells _ t frozen => .cells ((Go.Pinned.utf8FirstZ.map fun z : Nat => Value.int .u8 (z : Int)).toArray) t frozen
      | o => o).modify 2 fun
      | .cells _ t frozen => .cells (#[.iface 193 (.pointer (some ⟨low, 0, none⟩))]) t frozen
      | o => o).modify 1 fun
      | .cells _ t frozen => .cells (#[.iface 193 (.pointer (some ⟨low + 1, 0, none⟩))]) t frozen
      | o => o) }
theorem own_knob : ownKnob Tryz.prog.godebug = none := by kernel_rfl
theorem laid_out : laidOutB Tryz.prog = true := by kernel_rfl
end Go.Proofs.YtianjkiakkclgaaGreatDoor

/- TurnTexts: the text of a turn is read again as the turn, and what is read has this text; for every input the law returns true. The listed library variables are tied to the program text. -/
namespace Go.Proofs.YtianjkiakkclgaaGreatDoor
open Go Go.RowKit Bn Go.ChangeShapes Go.WideShapes Go.ChangeAt
theorem texts_contract (H : Type) (enc : TypeId × Value → H) (W : World) (base : Nat) (args : Array Value) (ds gs : List (DataW H)) (before : List MemPlace)
    (hval0 : ∀ (j : Nat) t v, Tryz.f4.params[j]? = some t → args[j]? = some v → Value.okWide Tryz.prog W .any base t v)
    (hW : DataW.Whole enc Tryz.prog Tryz.f4.params.toList Rows.turnTextsSpec.vars false W args.toList ds gs before) (hL : laidMetH Tryz.prog Rows.turnTextsRow.laid W) (hsh : W.ShapedOpen Tryz.prog) :
    Calls Tryz.prog 4 args W fun e W' => ∃ v, e = .returned v ∧ Rows.turnTextsSpec.post enc Tryz.prog Tryz.f4 false true false false W args v W' := by
  have hval : ∀ (j : Nat) t v, Tryz.f4.params[j]? = some t → args[j]? = some v → Value.okWide Tryz.prog W .any base t v := hval0
  have htab : Tab W := tab_of_laid hL
  have hmx : Mx W := mx_of_shaped hsh
  have hW' := hW
  obtain ⟨p, q, hA0, hV, rfl, hfz, hnd⟩ := hW
  have hA : DataW.TrodAll enc Tryz.prog W 0 (fun _ => true) true Tryz.f4.params.toList args.toList ds p := hA0
  rw [Tryz.params4] at hA hval
  obtain ⟨v0, v1, d0, d1, p0, p1, rfl, rfl, rfl, h0, h1⟩ := trodAll_two hA
  obtain ⟨rfl, rfl⟩ := trodVars_none hV
  obtain ⟨b, A, n, c, D, m, e, r, k, y, rfl, H⟩ := turn_open (hval 0 _ v0 rfl rfl) h0
  obtain ⟨s, rfl, rfl, rfl, hs⟩ := Go.ChangeMaps.open_string Tryz.underlying9 (hval 1 _ v1 rfl rfl) h1
  obtain ⟨t, rfl⟩ : ∃ t : List UInt8, s = ⟨t.toArray⟩ := ⟨s.data.toList, by simp⟩
  have ht : t.length < 9223372036854775808 := by unfold maxLen at hs; have h9 : t.length ≤ _ := hs; omega
  refine (l_TurnTexts W b A n c D m e r k H y t ht htab hmx).mono fun e W' ⟨he, hb⟩ => ?_
  subst he
  exact ⟨_, rfl, law_post laid_out Tryz.underlying4 hW' rfl rfl (by kernel_rfl) rfl rfl rfl hb⟩
theorem texts_lifted (os : Os) (started : os.Started) (H : Type) (enc : TypeId × Value → H) (F : Stop.Interp) :
    ReturnsInHanded {} Tryz.checked os 4 .any ((OpenSpec.ofChange Rows.turnTextsSpec).preRow enc Tryz.prog Tryz.f4 Rows.turnTextsRow.domain false Rows.turnTextsRow.laid) (((OpenSpec.ofChange Rows.turnTextsSpec).at F).post enc Tryz.prog Tryz.f4 false true false false) := by
  have hx : DataW.whole enc Tryz.prog ((laidWorld os).forCall (fun _ _ => 0) ⟨#[], #[.agg #[.bool false, .slice none 0 0, .slice none 0 0, .bool false], .string ⟨#[]⟩], []⟩).memory Tryz.f4.params.toList Rows.turnTextsSpec.vars false (#[.agg #[.bool false, .slice none 0 0, .slice none 0 0, .bool false], .string ⟨#[]⟩] : Array Value).toList 8 = some ([.agg [.agg [.lit (.bool false), .nil, .nil], .lit (.bool false)], .lit (.string [])], [], []) := by kernel_rfl
  have hl : laidMet Tryz.prog Rows.turnTextsRow.laid ((laidWorld os).forCall (fun _ _ => 0) ⟨#[], #[.agg #[.bool false, .slice none 0 0, .slice none 0 0, .bool false], .string ⟨#[]⟩], []⟩).memory := laidMet_of_run' 8 (by kernel_rfl) (by kernel_rfl)
  refine returnsInHanded_of_row (C := Tryz.checked) (s := OpenSpec.ofChange Rows.turnTextsSpec) own_knob started (by kernel_rfl) Tryz.func4
    (witness_row_at (enc := enc) (C := Tryz.checked) false (laidWorld os) #[.agg #[.bool false, .slice none 0 0, .slice none 0 0, .bool false], .string ⟨#[]⟩] rfl (by kernel_rfl) (by kernel_rfl) (by kernel_rfl)
      (OpenSpec.preRow_of_cond 8 hx (by kernel_rfl) (fun k hk => by cases hk) (by kernel_rfl) hl)) ?_
  intro W base args ds gs before hval hW _ _ _ hL hsh _
  exact texts_contract H enc W base args ds gs before hval hW hL hsh
theorem texts_j2 : (Rows.turnTextsRow.inPlace == Tryz.pinned.checked.prog.inPlace 4) = true := by kernel_rfl
theorem texts_j3 : (Rows.turnTextsRow.unfollowed == Tryz.pinned.checked.prog.unfollowed 4) = true := by kernel_rfl
theorem texts_j4 : (Rows.turnTextsRow.recurses == Tryz.pinned.checked.prog.recurses 4) = true := by kernel_rfl
theorem texts_j5 : (Rows.turnTextsRow.named == Tryz.pinned.checked.prog.varsNamed 4) = true := by kernel_rfl
theorem texts_joined : joinedFacts Tryz.pinned.checked.prog 4 Tryz.f4 (OpenSpec.ofChange Rows.turnTextsSpec).bare Rows.turnTextsRow = true := joined_parts (by kernel_rfl) texts_j2 texts_j3 texts_j4 texts_j5 (by kernel_rfl)
theorem texts_inst : Tryz.f4.isInstance Tryz.pinned.checked.prog Rows.turnTextsRow.origin Rows.turnTextsRow.targs := of_decide_eq_true (by kernel_rfl)
theorem texts_said : Rows.TurnTextsSaid :=
  OpenClaim.holds_of_cond 4 Tryz.f4 rfl rfl rfl rfl rfl rfl rfl ⟨rfl, rfl, rfl, rfl, rfl⟩ rfl rfl rfl rfl rfl (by kernel_rfl) Tryz.func4 texts_joined
    texts_inst (by unfold Func.isWrapper; first | (rw [if_pos (by decide +kernel)]; kernel_rfl) | (rw [if_neg (by decide +kernel)]; exact ⟨rfl, rfl⟩))
    (fun os started H enc _ F => by rw [OpenClaim.pre_eq_preRow]; exact texts_lifted os started H enc F)
theorem texts_plain (f : FuncId) (fn : Func) (hf : Tryz.pinned.checked.prog.funcNamed "linkwork/linkworklaw12.TurnTexts" = some f) (hfn : Tryz.pinned.checked.prog.funcs[f]? = some fn) :
    true = Tryz.pinned.checked.prog.looks [] ∧ ∀ (j : Nat) t, fn.params[j]? = some t → Tryz.pinned.checked.prog.wantsStandIn t = false := by
  obtain rfl : f = 4 := Option.some.inj ((show Tryz.prog.funcNamed "linkwork/linkworklaw12.TurnTexts" = some 4 by kernel_rfl).symm.trans hf) |>.symm
  obtain rfl : fn = Tryz.f4 := (Option.some.inj (Tryz.func4.symm.trans hfn)).symm
  refine ⟨by kernel_rfl, fun j t ht => ?_⟩
  rw [Tryz.params4] at ht
  have hm : t ∈ [28, 9] := by
    have := Array.mem_of_getElem? ht
    simp at this ⊢
    first
      | exact this
      | exact .inl this
  have hall : ([28, 9].all fun u => !Tryz.prog.wantsStandIn u) = true := by kernel_rfl
  exact (show Tryz.prog.wantsStandIn t = false by simpa using List.all_eq_true.1 hall t hm)
theorem texts_holds : Rows.TurnTextsCardSaid :=
  Claim7.holds_tied_plain_at .later [] _ _ _ _ texts_said (fun _ h => by cases h) (by kernel_rfl) (fun _ h => by cases h) turnTexts_row_tie rfl ⟨rfl, rfl⟩ (by kernel_rfl) rfl texts_plain (by kernel_rfl)
end Go.Proofs.YtianjkiakkclgaaGreatDoor
