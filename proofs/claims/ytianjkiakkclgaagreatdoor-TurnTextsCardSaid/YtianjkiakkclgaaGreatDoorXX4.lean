/- Part XX4: lemmas and walks that the claim rests on. No claim is made here. -/
import Derived.Deep.DeepCutAuto
import Derived.Deep.RegionHeld3
import Derived.Deep.DrawnRows
import Derived.BigQuiet
import Derived.Lib.ItoaNum
import Derived.Lib.ItoaMem
import Derived.Lib.Repeat
import Derived.Lib.Join
import Derived.Lib.IndexMore
import Derived.Lib.AppendIntMem
import Derived.Laws.OwnMore
import Derived.Deep.AppendLies
import Derived.Lib.Atoi
import Derived.Lib.SlTrimSet
import Derived.Shelf.Strings.SlTrimAscii
import Derived.WalkSpells
import Derived.Test.YtianjkiakkclgaaGreatDoorXX3
set_option linter.unusedVariables false
set_option maxHeartbeats 8000000
set_option maxRecDepth 100000
/- Walks: the reference: fractions in lowest terms. -/
namespace Go.Proofs.YtianjkiakkclgaaGreatDoor
open Go Go.RowKit Bn
attribute [local go_sem ↓] Go.wp_at_zero Go.wp_at_succ
theorem r01_sign_e (w : World) (b : Bool) (A : Option Addr) (n c : Nat) (z : Int) (k : Nat) (h : IZ w b A n c z k) (s : Int) (hs : z.sign = s) (hk : k ≤ 1000000000) : Calls Tryz.prog 71 #[.agg #[.bool b, .slice A n c]] w (RetV w (.int .i64 s)) := by
  subst hs; exact r01_sign w b A n c z k h hk
theorem form_any {z d : Int} {q : Rat} (hz : z ≠ 0) (hd : 0 < d) (hq : Rat.divInt z d = q) :
    (rd q).num = (wh (z / ((Nat.gcd z.natAbs d.natAbs : Nat) : Int))).mag ∧ (rd q).den = (wh (d / ((Nat.gcd z.natAbs d.natAbs : Nat) : Int))).mag ∧ (rd q).neg = (wh (z / ((Nat.gcd z.natAbs d.natAbs : Nat) : Int))).neg := by
  rw [← hq, rd_divInt hz hd, wh_div _ hd]
  have hg : 0 < Nat.gcd z.natAbs d.natAbs := Nat.gcd_pos_of_pos_right _ (by omega)
  have hdv : ((Nat.gcd z.natAbs d.natAbs : Nat) : Int) ∣ z := Int.ofNat_dvd_left.2 (Nat.gcd_dvd_left _ _)
  generalize Nat.gcd z.natAbs d.natAbs = g at *
  obtain ⟨m, rfl⟩ := hdv
  have e : (g : Int) * m / (g : Int) = m := Int.mul_ediv_cancel_left _ (by omega)
  have e2 : ((g : Int) * m).natAbs / g = m.natAbs := by rw [Int.natAbs_mul, Int.natAbs_natCast]; exact Nat.mul_div_cancel_left _ hg
  rw [e, e2]
  refine ⟨rfl, rfl, ?_⟩
  unfold wh
  simp only [decide_eq_decide]
  constructor
  · intro h; rcases (show m < 0 ∨ 0 ≤ m by omega) with h1 | h1; exact h1; exact absurd (Int.mul_nonneg (Int.natCast_nonneg g) h1) (by omega)
  · intro h; exact Int.mul_neg_of_pos_of_neg (by omega) h
theorem g_form_0 (w : World) (b : Bool) (A : Option Addr) (n c : Nat) (z : Int) (k : Nat) (h : IZ w b A n c z k) (b' : Bool) (A' : Option Addr) (n' c' : Nat) (z' : Int) (k' : Nat) (h' : IZ w b' A' n' c' z' k') (K : Nat) (hz : z = 0) (hk : k + k' ≤ 300000000) :
  Calls Tryz.prog 64 #[.agg #[.bool b, .slice A n c], .agg #[.bool b', .slice A' n' c']] w (RetF w 0 K) := by
 have HZ := Lib.hid (show z.sign = 0 by rw [hz]; rfl)
 clear hz
 go_enter Tryz.func64, Tryz.ntmps64
 go_wp2_with fail
 (with_reducible refine (r01_sign_e _ b A n c (z) (k) ?_ (0) ?_ ?_).mono ?_); (exact (h.belw ((((Below.refl _ _).alloc (Nat.le_refl _) _).alloc (by simp) _).alloc (by simp <;> omega) _))); (exact HZ.out); (omega); rintro e w1 ⟨rfl, hb1⟩
 have q1 := ((((Below.refl _ _).alloc (Nat.le_refl _) _).alloc (by simp) _).alloc (by simp <;> omega) _).trans (hb1.mono (by simp <;> omega))
 replace h := h.belw q1
 replace h' := h'.belw q1
 have x1a : Blk w1 w.heap.size 77 #[.bool b, .slice A n c] := (((blkAt _ _ _ (by simp)).alloc _).alloc _).below hb1 (by simp <;> omega)
 have x1b := ((blkAt _ _ _ (g := w.heap.size + 1) (by simp)).alloc _).below hb1 (by simp <;> omega)
 have x1c := (blkAt _ _ _ (g := w.heap.size + 1 + 1) (by simp)).below hb1 (by simp)
 have bw1 := (brefl w).trans (q1.mono (brefl w).size)
 have lw1 : w.heap.size + 3 ≤ w1.heap.size := by have := hb1.size; simp at this; omega
 clear q1
 obtain ⟨cx1ca, cx1cb, cx1cc⟩ := x1c.c3
 obtain ⟨fx1ca, fx1cb, fx1cc⟩ := x1c.f3
 obtain ⟨lx1ca, lx1cb, lx1cc, lx1cd⟩ := lts2 x1c.lt
 go_wp2_with fail
 refine bodyPost_ret (v := .agg #[.bool false, .slice none 0 0, .slice none 0 0]) (by simp [results, Tryz.results64, go_sem, *] <;> first | rfl | exact ⟨rfl, rfl⟩) rfl ?_
 exact ⟨false, none, 0, 0, none, 0, 0, rfl, QV.zero _ _, (((bw1.sc (w.heap.size + 1 + 1) 0 (by omega) (.bool false)).sc (w.heap.size + 1 + 1) 1 (by omega) (.slice none 0 0)).sc (w.heap.size + 1 + 1) 2 (by omega) (.slice none 0 0))⟩
theorem g_form_p (w : World)  (b : Bool) (A : Option Addr) (n c : Nat) (z : Int) (k : Nat) (h : IZ w b A n c z k) (b' : Bool) (A' : Option Addr) (n' c' : Nat) (z' : Int) (k' : Nat) (h' : IZ w b' A' n' c' z' k') (q : Rat) (K : Nat) (hz : z ≠ 0) (hd : z'.sign = 1) (hq : Rat.divInt z z' = q) (hs : Sz q K) (hk : k + k' ≤ 300000000) :
  Calls Tryz.prog 64 #[.agg #[.bool b, .slice A n c], .agg #[.bool b', .slice A' n' c']] w (RetF w q K) := by
 obtain ⟨s, hs1⟩ : ∃ s, z.sign = s := ⟨_, rfl⟩
 have e0 : ((s : Int) == 0) = false := by simp; rintro rfl; exact hz (Int.sign_eq_zero_iff_zero.1 hs1)
 have HZ := Lib.hid hs1
 have HD := Lib.hid hd
 have HN := Lib.hid (show z ≠ 0 by omega)
 have HP := Lib.hid (show 0 < z' by exact sign_pos hd)
 have HG := Lib.hid (show ((Nat.gcd (z).natAbs (z').natAbs : Nat) : Int) ≠ 0 from gcd_ne HP.out)
 have HM1 := Lib.hid (show z % ((Nat.gcd (z).natAbs (z').natAbs : Nat) : Int) = 0 from Int.emod_eq_zero_of_dvd (Int.ofNat_dvd_left.2 (Nat.gcd_dvd_left _ _)))
 have HM2 := Lib.hid (show z' % ((Nat.gcd (z).natAbs (z').natAbs : Nat) : Int) = 0 from Int.emod_eq_zero_of_dvd (Int.ofNat_dvd_left.2 (Nat.gcd_dvd_right _ _)))
 have HQ := Lib.hid (show Rat.divInt z z' = q by exact hq)
 have HS := Lib.hid hs
 clear hz hd hq hs hs1
 go_enter Tryz.func64, Tryz.ntmps64
 go_wp2_with fail
 (with_reducible refine (r01_sign_e _ b A n c (z) (k) ?_ (s) ?_ ?_).mono ?_); (exact (h.belw ((((Below.refl _ _).alloc (Nat.le_refl _) _).alloc (by simp) _).alloc (by simp <;> omega) _))); (exact HZ.out); (omega); rintro e w1 ⟨rfl, hb1⟩
 have q1 := ((((Below.refl _ _).alloc (Nat.le_refl _) _).alloc (by simp) _).alloc (by simp <;> omega) _).trans (hb1.mono (by simp <;> omega))
 replace h := h.belw q1
 replace h' := h'.belw q1
 have x1a : Blk w1 w.heap.size 77 #[.bool b, .slice A n c] := (((blkAt _ _ _ (by simp)).alloc _).alloc _).below hb1 (by simp <;> omega)
 have x1b := ((blkAt _ _ _ (g := w.heap.size + 1) (by simp)).alloc _).below hb1 (by simp <;> omega)
 have x1c := (blkAt _ _ _ (g := w.heap.size + 1 + 1) (by simp)).below hb1 (by simp)
 have bw1 := (brefl w).trans (q1.mono (brefl w).size)
 have lw1 : w.heap.size + 3 ≤ w1.heap.size := by have := hb1.size; simp at this; omega
 clear q1
 obtain ⟨cx1ba, cx1bb⟩ := x1b.c2
 obtain ⟨lx1ba, lx1bb, lx1bc, lx1bd⟩ := lts1 x1b.lt
 go_wp2_with fail
 (with_reducible refine (r01_sign_e _ b' A' n' c' (z') (k') ?_ (1) ?_ ?_).mono ?_); (exact h'); (exact HD.out); (omega); rintro e w2 ⟨rfl, q2⟩
 clear cx1ba cx1bb lx1ba lx1bb lx1bc lx1bd
 replace h := h.belw q2
 replace h' := h'.belw q2
 replace x1a := x1a.b q2
 replace x1b := x1b.b q2
 replace x1c := x1c.b q2
 have bw2 := bw1.trans (q2.mono bw1.size)
 have lw2 := q2.size
 clear q2 bw1
 obtain ⟨cx1aa, cx1ab⟩ := x1a.c2
 obtain ⟨lx1aa, lx1ab, lx1ac, lx1ad⟩ := lts0 x1a.lt
 obtain ⟨cx1ba, cx1bb⟩ := x1b.c2
 obtain ⟨lx1ba, lx1bb, lx1bc, lx1bd⟩ := lts1 x1b.lt
 go_wp2_with fail
 (with_reducible refine (r01_gcd _ b A n c (z) (k) ?_ b' A' n' c' (z') (k') ?_ ?_).mono ?_); (exact h); (exact h'); (first | omega | decide | assumption); rintro e w3 ⟨b3, A3, n3, c3, rfl, h3, q3⟩
 clear cx1aa cx1ab lx1aa lx1ab lx1ac lx1ad cx1ba cx1bb lx1ba lx1bb lx1bc lx1bd
 replace h := h.belw q3
 replace h' := h'.belw q3
 replace x1a := x1a.b q3
 replace x1b := x1b.b q3
 replace x1c := x1c.b q3
 have bw3 := bw2.trans (q3.mono bw2.size)
 have lw3 := q3.size
 clear q3 bw2
 obtain ⟨cx1aa, cx1ab⟩ := x1a.c2
 obtain ⟨lx1aa, lx1ab, lx1ac, lx1ad⟩ := lts0 x1a.lt
 go_wp2_with fail
 (with_reducible refine (r01_div _ b A n c (z) (k) ?_ b3 A3 n3 c3 ((Nat.gcd ((z)).natAbs ((z')).natAbs : Nat)) ((k) + (k')) ?_  ?_ ?_ ?_).mono ?_); (exact (h.belw ((Below.refl _ _).alloc (Nat.le_refl _) _))); (exact (h3.belw ((Below.refl _ _).alloc (Nat.le_refl _) _)).iz); (omega); (exact HG.out); (exact HM1.out); rintro e w4 ⟨b4, A4, n4, c4, b'4, A'4, n'4, c'4, rfl, h4, h'4, hb4⟩
 clear cx1aa cx1ab lx1aa lx1ab lx1ac lx1ad
 have q4 := ((Below.refl _ _).alloc (Nat.le_refl _) _).trans (hb4.mono (by simp))
 replace h := h.belw q4
 replace h' := h'.belw q4
 replace h3 := h3.belw q4
 replace x1a := x1a.b q4
 replace x1b := x1b.b q4
 replace x1c := x1c.b q4
 have x4a : Blk w4 w3.heap.size 77 #[.bool b3, .slice A3 n3 c3] := (blkAt _ _ _ (by simp)).below hb4 (by simp)
 have bw4 := bw3.trans (q4.mono bw3.size)
 have lw4 : w3.heap.size + 1 ≤ w4.heap.size := by have := hb4.size; simp at this; omega
 clear q4 bw3
 obtain ⟨cx1ba, cx1bb⟩ := x1b.c2
 obtain ⟨lx1ba, lx1bb, lx1bc, lx1bd⟩ := lts1 x1b.lt
 obtain ⟨cx4aa, cx4ab⟩ := x4a.c2
 obtain ⟨lx4aa, lx4ab, lx4ac, lx4ad⟩ := lts0 x4a.lt
 go_wp2_with fail
 (with_reducible refine (r01_div _ b' A' n' c' (z') (k') ?_ b3 A3 n3 c3 ((Nat.gcd ((z)).natAbs ((z')).natAbs : Nat)) ((k) + (k')) ?_  ?_ ?_ ?_).mono ?_); (exact (h'.belw (((Below.refl _ _).alloc (Nat.le_refl _) _).alloc (by simp) _))); (exact (h3.belw (((Below.refl _ _).alloc (Nat.le_refl _) _).alloc (by simp) _)).iz); (omega); (exact HG.out); (exact HM2.out); rintro e w5 ⟨b5, A5, n5, c5, b'5, A'5, n'5, c'5, rfl, h5, h'5, hb5⟩
 clear cx1ba cx1bb lx1ba lx1bb lx1bc lx1bd cx4aa cx4ab lx4aa lx4ab lx4ac lx4ad
 have q5 := (((Below.refl _ _).alloc (Nat.le_refl _) _).alloc (by simp) _).trans (hb5.mono (by simp <;> omega))
 replace h := h.belw q5
 replace h' := h'.belw q5
 replace h3 := h3.belw q5
 replace h4 := h4.belw q5
 replace h'4 := h'4.belw q5
 replace x1a := x1a.b q5
 replace x1b := x1b.b q5
 replace x1c := x1c.b q5
 replace x4a := x4a.b q5
 have x5a : Blk w5 w4.heap.size 77 #[.bool b4, .slice A4 n4 c4] := ((blkAt _ _ _ (by simp)).alloc _).below hb5 (by simp <;> omega)
 have x5b := (blkAt _ _ _ (g := w4.heap.size + 1) (by simp)).below hb5 (by simp)
 have bw5 := bw4.trans (q5.mono bw4.size)
 have lw5 : w4.heap.size + 2 ≤ w5.heap.size := by have := hb5.size; simp at this; omega
 clear q5 bw4
 obtain ⟨cx1ca, cx1cb, cx1cc⟩ := x1c.c3
 obtain ⟨fx1ca, fx1cb, fx1cc⟩ := x1c.f3
 obtain ⟨lx1ca, lx1cb, lx1cc, lx1cd⟩ := lts2 x1c.lt
 obtain ⟨cx5aa, cx5ab⟩ := x5a.c2
 obtain ⟨lx5aa, lx5ab, lx5ac, lx5ad⟩ := lts0 x5a.lt
 go_wp2_with fail
 refine bodyPost_ret (v := .agg #[.bool b4, .slice A4 n4 c4, .slice A5 n5 c5]) (by simp [results, Tryz.results64, go_sem, *] <;> first | rfl | exact ⟨rfl, rfl⟩) rfl ?_
 obtain ⟨e1, e2, e3⟩ := form_any HN.out HP.out HQ.out
 exact ⟨_, _, _, _, _, _, _, rfl, QV.mk_ (by rw [e1]; exact h4.2.1.keep ((((((Kp.refl w5).sb (w.heap.size + 1 + 1) 0 x1c.box (by decide) (.bool b4)).sb (w.heap.size + 1 + 1) 1 (x1c.box.set ⟨w.heap.size + 1 + 1, 0, none⟩ (.bool b4)) (by decide) (.slice A4 n4 c4)).sb (w.heap.size + 1 + 1) 2 ((x1c.box.set ⟨w.heap.size + 1 + 1, 0, none⟩ (.bool b4)).set ⟨w.heap.size + 1 + 1, 1, none⟩ (.slice A4 n4 c4)) (by decide) (.slice A5 n5 c5)).alloc (.cells #[.bool b5, .slice A5 n5 c5] 77)).alloc (.cells #[.bool b'5, .slice A'5 n'5 c'5] 77))) (by rw [e2]; exact h5.2.1.keep ((((((Kp.refl w5).sb (w.heap.size + 1 + 1) 0 x1c.box (by decide) (.bool b4)).sb (w.heap.size + 1 + 1) 1 (x1c.box.set ⟨w.heap.size + 1 + 1, 0, none⟩ (.bool b4)) (by decide) (.slice A4 n4 c4)).sb (w.heap.size + 1 + 1) 2 ((x1c.box.set ⟨w.heap.size + 1 + 1, 0, none⟩ (.bool b4)).set ⟨w.heap.size + 1 + 1, 1, none⟩ (.slice A4 n4 c4)) (by decide) (.slice A5 n5 c5)).alloc (.cells #[.bool b5, .slice A5 n5 c5] 77)).alloc (.cells #[.bool b'5, .slice A'5 n'5 c'5] 77))) (by rw [e3]; exact h4.1.symm) HS.out, (((((bw5.sc (w.heap.size + 1 + 1) 0 (by omega) (.bool b4)).sc (w.heap.size + 1 + 1) 1 (by omega) (.slice A4 n4 c4)).sc (w.heap.size + 1 + 1) 2 (by omega) (.slice A5 n5 c5)).alloc (by first | omega | (simp <;> omega)) (.cells #[.bool b5, .slice A5 n5 c5] 77)).alloc (by first | omega | (simp <;> omega)) (.cells #[.bool b'5, .slice A'5 n'5 c'5] 77))⟩
theorem g_form_n (w : World)  (b : Bool) (A : Option Addr) (n c : Nat) (z : Int) (k : Nat) (h : IZ w b A n c z k) (b' : Bool) (A' : Option Addr) (n' c' : Nat) (z' : Int) (k' : Nat) (h' : IZ w b' A' n' c' z' k') (q : Rat) (K : Nat) (hz : z ≠ 0) (hd : z'.sign = -1) (hq : Rat.divInt z z' = q) (hs : Sz q K) (hk : k + k' ≤ 300000000) :
  Calls Tryz.prog 64 #[.agg #[.bool b, .slice A n c], .agg #[.bool b', .slice A' n' c']] w (RetF w q K) := by
 obtain ⟨s, hs1⟩ : ∃ s, z.sign = s := ⟨_, rfl⟩
 have e0 : ((s : Int) == 0) = false := by simp; rintro rfl; exact hz (Int.sign_eq_zero_iff_zero.1 hs1)
 have HZ := Lib.hid hs1
 have HD := Lib.hid hd
 have HN := Lib.hid (show (-z) ≠ 0 by omega)
 have HP := Lib.hid (show 0 < (-z') by exact sign_neg_ hd)
 have HG := Lib.hid (show ((Nat.gcd ((-z)).natAbs ((-z')).natAbs : Nat) : Int) ≠ 0 from gcd_ne HP.out)
 have HM1 := Lib.hid (show (-z) % ((Nat.gcd ((-z)).natAbs ((-z')).natAbs : Nat) : Int) = 0 from Int.emod_eq_zero_of_dvd (Int.ofNat_dvd_left.2 (Nat.gcd_dvd_left _ _)))
 have HM2 := Lib.hid (show (-z') % ((Nat.gcd ((-z)).natAbs ((-z')).natAbs : Nat) : Int) = 0 from Int.emod_eq_zero_of_dvd (Int.ofNat_dvd_left.2 (Nat.gcd_dvd_right _ _)))
 have HQ := Lib.hid (show Rat.divInt (-z) (-z') = q by rw [divInt_neg_neg _ _ (sign_ne hd)]; exact hq)
 have HS := Lib.hid hs
 clear hz hd hq hs hs1
 go_enter Tryz.func64, Tryz.ntmps64
 go_wp2_with fail
 (with_reducible refine (r01_sign_e _ b A n c (z) (k) ?_ (s) ?_ ?_).mono ?_); (exact (h.belw ((((Below.refl _ _).alloc (Nat.le_refl _) _).alloc (by simp) _).alloc (by simp <;> omega) _))); (exact HZ.out); (omega); rintro e w1 ⟨rfl, hb1⟩
 have q1 := ((((Below.refl _ _).alloc (Nat.le_refl _) _).alloc (by simp) _).alloc (by simp <;> omega) _).trans (hb1.mono (by simp <;> omega))
 replace h := h.belw q1
 replace h' := h'.belw q1
 have x1a : Blk w1 w.heap.size 77 #[.bool b, .slice A n c] := (((blkAt _ _ _ (by simp)).alloc _).alloc _).below hb1 (by simp <;> omega)
 have x1b := ((blkAt _ _ _ (g := w.heap.size + 1) (by simp)).alloc _).below hb1 (by simp <;> omega)
 have x1c := (blkAt _ _ _ (g := w.heap.size + 1 + 1) (by simp)).below hb1 (by simp)
 have bw1 := (brefl w).trans (q1.mono (brefl w).size)
 have lw1 : w.heap.size + 3 ≤ w1.heap.size := by have := hb1.size; simp at this; omega
 clear q1
 obtain ⟨cx1ba, cx1bb⟩ := x1b.c2
 obtain ⟨lx1ba, lx1bb, lx1bc, lx1bd⟩ := lts1 x1b.lt
 go_wp2_with fail
 (with_reducible refine (r01_sign_e _ b' A' n' c' (z') (k') ?_ (-1) ?_ ?_).mono ?_); (exact h'); (exact HD.out); (omega); rintro e w2 ⟨rfl, q2⟩
 clear cx1ba cx1bb lx1ba lx1bb lx1bc lx1bd
 replace h := h.belw q2
 replace h' := h'.belw q2
 replace x1a := x1a.b q2
 replace x1b := x1b.b q2
 replace x1c := x1c.b q2
 have bw2 := bw1.trans (q2.mono bw1.size)
 have lw2 := q2.size
 clear q2 bw1
 go_wp2_with fail
 obtain ⟨cx1aa, cx1ab⟩ := x1a.c2
 obtain ⟨cx1ba, cx1bb⟩ := x1b.c2
 go_cut [2] (fun s2 wx => s2 = .pointer (some ⟨w.heap.size, 0, none⟩) ∧ ∃ b8 A8 n8 c8 b9 A9 n9 c9, Blk wx w.heap.size 77 #[.bool b8, .slice A8 n8 c8] ∧ Blk wx (w.heap.size + 1) 77 #[.bool b9, .slice A9 n9 c9] ∧ Blk wx (w.heap.size + 1 + 1) 24 #[.bool false, .slice none 0 0, .slice none 0 0] ∧ IV wx b8 A8 n8 c8 (-z) k ∧ IV wx b9 A9 n9 c9 (-z') k' ∧ Below w.heap.size w wx ∧ w2.heap.size ≤ wx.heap.size)
 case first =>
  go_region_with (first
   | (go_at_call 97; (with_reducible refine (r01_neg _ b A n c (z) (k) ?_ ?_).mono ?_); (exact h); (omega); rintro e w3 ⟨b4, A4, n4, c4, rfl, h4, hb4⟩; replace hb4 := bnext (below_drewN (brefl _) 1) hb4; replace h' := h'.belw hb4; have bw4 := bw2.trans (hb4.mono bw2.size); have lw4 := hb4.size; replace x1a := x1a.b hb4; replace x1b := x1b.b hb4; replace x1c := x1c.b hb4; obtain ⟨dx1_1_0, dx1_1_1⟩ := x1b.c2)
   | (go_at_call 97; (with_reducible refine (r01_neg _ b' A' n' c' (z') (k') ?_ ?_).mono ?_); (exact h'); (omega); rintro e w4 ⟨b5, A5, n5, c5, rfl, h5, hb5⟩; replace h4 := h4.belw hb5; have bw5 := bw4.trans (hb5.mono bw4.size); have lw5 := hb5.size; replace x1a := x1a.b hb5; replace x1b := x1b.b hb5; replace x1c := x1c.b hb5; obtain ⟨ex1_0_0, ex1_0_1⟩ := x1a.c2; obtain ⟨fx1aa, fx1ab⟩ := x1a.f2; obtain ⟨ex1_1_0, ex1_1_1⟩ := x1b.c2; obtain ⟨fx1ba, fx1bb⟩ := x1b.f2))
  all_goals
   go_wp2_with fail
   go_meet
   have kp := (((((Kp.refl w4).sb w.heap.size 0 x1a.box (by decide) (.bool b4)).sb w.heap.size 1 (x1a.box.set ⟨w.heap.size, 0, none⟩ (.bool b4)) (by decide) (.slice A4 n4 c4)).sb (w.heap.size + 1) 0 ((x1b.box.set ⟨w.heap.size, 0, none⟩ (.bool b4)).set ⟨w.heap.size, 1, none⟩ (.slice A4 n4 c4)) (by decide) (.bool b5)).sb (w.heap.size + 1) 1 (((x1b.box.set ⟨w.heap.size, 0, none⟩ (.bool b4)).set ⟨w.heap.size, 1, none⟩ (.slice A4 n4 c4)).set ⟨w.heap.size + 1, 0, none⟩ (.bool b5)) (by decide) (.slice A5 n5 c5))
   exact ⟨rfl, b4, A4, n4, c4, b5, A5, n5, c5, ((((x1a.set_at 0 (.bool b4) #[.bool b4, .slice A n c] (by simp)).set_at 1 (.slice A4 n4 c4) #[.bool b4, .slice A4 n4 c4] (by simp)).fr (w.heap.size + 1) 0 (by omega) (.bool b5)).fr (w.heap.size + 1) 1 (by omega) (.slice A5 n5 c5)), ((((x1b.fr w.heap.size 0 (by omega) (.bool b4)).fr w.heap.size 1 (by omega) (.slice A4 n4 c4)).set_at 0 (.bool b5) #[.bool b5, .slice A' n' c'] (by simp)).set_at 1 (.slice A5 n5 c5) #[.bool b5, .slice A5 n5 c5] (by simp)), ((((x1c.fr w.heap.size 0 (by omega) (.bool b4)).fr w.heap.size 1 (by omega) (.slice A4 n4 c4)).fr (w.heap.size + 1) 0 (by omega) (.bool b5)).fr (w.heap.size + 1) 1 (by omega) (.slice A5 n5 c5)), h4.keep kp, h5.keep kp, ((((bw5.sc w.heap.size 0 (by omega) (.bool b4)).sc w.heap.size 1 (by omega) (.slice A4 n4 c4)).sc (w.heap.size + 1) 0 (by omega) (.bool b5)).sc (w.heap.size + 1) 1 (by omega) (.slice A5 n5 c5)), by simp [World.setCell]; omega⟩
 case rest =>
  clear h h'
  obtain ⟨rfl, b8, A8, n8, c8, b9, A9, n9, c9, y0, y1, y2, h8, h9, bwc, lwc⟩ := hcut
  clear x1a x1b x1c
  have cy0_0 : wc.cell? ⟨w.heap.size, 0, none⟩ = some (.bool b8) := y0.cell 0
  have cy0_1 : wc.cell? ⟨w.heap.size, 1, none⟩ = some (.slice A8 n8 c8) := y0.cell 1
  obtain ⟨ly0_0, ly0_1, ly0_2, ly0_3⟩ := lts0 y0.lt
  have cy1_0 : wc.cell? ⟨w.heap.size + 1, 0, none⟩ = some (.bool b9) := y1.cell 0
  have cy1_1 : wc.cell? ⟨w.heap.size + 1, 1, none⟩ = some (.slice A9 n9 c9) := y1.cell 1
  obtain ⟨ly1_0, ly1_1, ly1_2, ly1_3⟩ := lts1 y1.lt
  go_wp2_with fail
  (with_reducible refine (r01_gcd _ b8 A8 n8 c8 (-z) (k) ?_ b9 A9 n9 c9 (-z') (k') ?_ ?_).mono ?_); (exact h8.iz); (exact h9.iz); (first | omega | decide | assumption); rintro e w13 ⟨b13, A13, n13, c13, rfl, h13, q13⟩
  clear cy0_0 cy0_1 ly0_0 ly0_1 ly0_2 ly0_3 cy1_0 cy1_1 ly1_0 ly1_1 ly1_2 ly1_3
  replace h8 := h8.belw q13
  replace h9 := h9.belw q13
  replace y0 := y0.b q13
  replace y1 := y1.b q13
  replace y2 := y2.b q13
  have bw13 := bwc.trans (q13.mono bwc.size)
  have lw13 := q13.size
  clear q13
  obtain ⟨cy0_0, cy0_1⟩ := y0.c2
  obtain ⟨ly0_0, ly0_1, ly0_2, ly0_3⟩ := lts0 y0.lt
  go_wp2_with fail
  (with_reducible refine (r01_div _ b8 A8 n8 c8 (-z) (k) ?_ b13 A13 n13 c13 ((Nat.gcd ((-z)).natAbs ((-z')).natAbs : Nat)) ((k) + (k')) ?_  ?_ ?_ ?_).mono ?_); (exact (h8.belw ((Below.refl _ _).alloc (Nat.le_refl _) _)).iz); (exact (h13.belw ((Below.refl _ _).alloc (Nat.le_refl _) _)).iz); (omega); (exact HG.out); (exact HM1.out); rintro e w14 ⟨b14, A14, n14, c14, b'14, A'14, n'14, c'14, rfl, h14, h'14, hb14⟩
  clear cy0_0 cy0_1 ly0_0 ly0_1 ly0_2 ly0_3
  have q14 := ((Below.refl _ _).alloc (Nat.le_refl _) _).trans (hb14.mono (by simp))
  replace h8 := h8.belw q14
  replace h9 := h9.belw q14
  replace h13 := h13.belw q14
  replace y0 := y0.b q14
  replace y1 := y1.b q14
  replace y2 := y2.b q14
  have x14a : Blk w14 w13.heap.size 77 #[.bool b13, .slice A13 n13 c13] := (blkAt _ _ _ (by simp)).below hb14 (by simp)
  have bw14 := bw13.trans (q14.mono bw13.size)
  have lw14 : w13.heap.size + 1 ≤ w14.heap.size := by have := hb14.size; simp at this; omega
  clear q14 bw13
  obtain ⟨cy1_0, cy1_1⟩ := y1.c2
  obtain ⟨ly1_0, ly1_1, ly1_2, ly1_3⟩ := lts1 y1.lt
  obtain ⟨cx14aa, cx14ab⟩ := x14a.c2
  obtain ⟨lx14aa, lx14ab, lx14ac, lx14ad⟩ := lts0 x14a.lt
  go_wp2_with fail
  (with_reducible refine (r01_div _ b9 A9 n9 c9 (-z') (k') ?_ b13 A13 n13 c13 ((Nat.gcd ((-z)).natAbs ((-z')).natAbs : Nat)) ((k) + (k')) ?_  ?_ ?_ ?_).mono ?_); (exact (h9.belw (((Below.refl _ _).alloc (Nat.le_refl _) _).alloc (by simp) _)).iz); (exact (h13.belw (((Below.refl _ _).alloc (Nat.le_refl _) _).alloc (by simp) _)).iz); (omega); (exact HG.out); (exact HM2.out); rintro e w15 ⟨b15, A15, n15, c15, b'15, A'15, n'15, c'15, rfl, h15, h'15, hb15⟩
  clear cy1_0 cy1_1 ly1_0 ly1_1 ly1_2 ly1_3 cx14aa cx14ab lx14aa lx14ab lx14ac lx14ad
  have q15 := (((Below.refl _ _).alloc (Nat.le_refl _) _).alloc (by simp) _).trans (hb15.mono (by simp <;> omega))
  replace h8 := h8.belw q15
  replace h9 := h9.belw q15
  replace h13 := h13.belw q15
  replace h14 := h14.belw q15
  replace h'14 := h'14.belw q15
  replace y0 := y0.b q15
  replace y1 := y1.b q15
  replace y2 := y2.b q15
  replace x14a := x14a.b q15
  have x15a : Blk w15 w14.heap.size 77 #[.bool b14, .slice A14 n14 c14] := ((blkAt _ _ _ (by simp)).alloc _).below hb15 (by simp <;> omega)
  have x15b := (blkAt _ _ _ (g := w14.heap.size + 1) (by simp)).below hb15 (by simp)
  have bw15 := bw14.trans (q15.mono bw14.size)
  have lw15 : w14.heap.size + 2 ≤ w15.heap.size := by have := hb15.size; simp at this; omega
  clear q15 bw14
  obtain ⟨cy2_0, cy2_1, cy2_2⟩ := y2.c3
  obtain ⟨fy2_0, fy2_1, fy2_2⟩ := y2.f3
  obtain ⟨ly2_0, ly2_1, ly2_2, ly2_3⟩ := lts2 y2.lt
  obtain ⟨cx15aa, cx15ab⟩ := x15a.c2
  obtain ⟨lx15aa, lx15ab, lx15ac, lx15ad⟩ := lts0 x15a.lt
  go_wp2_with fail
  refine bodyPost_ret (v := .agg #[.bool b14, .slice A14 n14 c14, .slice A15 n15 c15]) (by simp [results, Tryz.results64, go_sem, *] <;> first | rfl | exact ⟨rfl, rfl⟩) rfl ?_
  obtain ⟨e1, e2, e3⟩ := form_any HN.out HP.out HQ.out
  exact ⟨_, _, _, _, _, _, _, rfl, QV.mk_ (by rw [e1]; exact h14.2.1.keep ((((((Kp.refl w15).sb (w.heap.size + 1 + 1) 0 y2.box (by decide) (.bool b14)).sb (w.heap.size + 1 + 1) 1 (y2.box.set ⟨w.heap.size + 1 + 1, 0, none⟩ (.bool b14)) (by decide) (.slice A14 n14 c14)).sb (w.heap.size + 1 + 1) 2 ((y2.box.set ⟨w.heap.size + 1 + 1, 0, none⟩ (.bool b14)).set ⟨w.heap.size + 1 + 1, 1, none⟩ (.slice A14 n14 c14)) (by decide) (.slice A15 n15 c15)).alloc (.cells #[.bool b15, .slice A15 n15 c15] 77)).alloc (.cells #[.bool b'15, .slice A'15 n'15 c'15] 77))) (by rw [e2]; exact h15.2.1.keep ((((((Kp.refl w15).sb (w.heap.size + 1 + 1) 0 y2.box (by decide) (.bool b14)).sb (w.heap.size + 1 + 1) 1 (y2.box.set ⟨w.heap.size + 1 + 1, 0, none⟩ (.bool b14)) (by decide) (.slice A14 n14 c14)).sb (w.heap.size + 1 + 1) 2 ((y2.box.set ⟨w.heap.size + 1 + 1, 0, none⟩ (.bool b14)).set ⟨w.heap.size + 1 + 1, 1, none⟩ (.slice A14 n14 c14)) (by decide) (.slice A15 n15 c15)).alloc (.cells #[.bool b15, .slice A15 n15 c15] 77)).alloc (.cells #[.bool b'15, .slice A'15 n'15 c'15] 77))) (by rw [e3]; exact h14.1.symm) HS.out, (((((bw15.sc (w.heap.size + 1 + 1) 0 (by omega) (.bool b14)).sc (w.heap.size + 1 + 1) 1 (by omega) (.slice A14 n14 c14)).sc (w.heap.size + 1 + 1) 2 (by omega) (.slice A15 n15 c15)).alloc (by first | omega | (simp <;> omega)) (.cells #[.bool b15, .slice A15 n15 c15] 77)).alloc (by first | omega | (simp <;> omega)) (.cells #[.bool b'15, .slice A'15 n'15 c'15] 77))⟩
theorem g_form (w : World)  (b : Bool) (A : Option Addr) (n c : Nat) (z : Int) (k : Nat) (h : IZ w b A n c z k) (b' : Bool) (A' : Option Addr) (n' c' : Nat) (z' : Int) (k' : Nat) (h' : IZ w b' A' n' c' z' k') (q : Rat) (K : Nat) (hd : z' ≠ 0) (hq : Rat.divInt z z' = q) (hs : Sz q K) (hk : k + k' ≤ 300000000) :
    Calls Tryz.prog 64 #[.agg #[.bool b, .slice A n c], .agg #[.bool b', .slice A' n' c']] w (RetF w q K) := by
  by_cases s : z = 0
  · rw [← hq, s, Rat.zero_divInt]; exact g_form_0 w b A n c z k h b' A' n' c' z' k' h' K s hk
  · rcases sign3 z' with t | t | t
    · exact absurd t hd
    · exact g_form_p w b A n c z k h b' A' n' c' z' k' h' q K s t hq hs hk
    · exact g_form_n w b A n c z k h b' A' n' c' z' k' h' q K s t hq hs hk
end Go.Proofs.YtianjkiakkclgaaGreatDoor

/- Walks: the reference's times, Mul. -/
namespace Go.Proofs.YtianjkiakkclgaaGreatDoor
open Go Go.RowKit Bn
attribute [local go_sem ↓] Go.wp_at_zero Go.wp_at_succ
theorem r_times_c (w : World) (A : Option Addr) (n c : Nat) (l : List Nat) (wa : Wd w A n c l) (hn : n ≤ 1099511627776) (A' : Option Addr) (n' c' : Nat) (l' : List Nat) (wb : Wd w A' n' c' l') (hn' : n' ≤ 1099511627776) :
    Calls Tryz.prog 106 #[.slice A n c, .slice A' n' c'] w (RetL w (digs (val l * val l'))) := by
  have HL := Lib.hid wa.2.1
  have HL' := Lib.hid wb.2.1
  go_enter Tryz.func106, Tryz.ntmps106
  go_wp2_with (at_make; refine wpList_make_words _ rfl _ _ rfl _ _ _ _ (n + n') rfl rfl (by omega) (by omega) (by omega) ?_)
  go_loopw [18] (fun iv wr => ∃ (i : Nat) (L : List Nat), i ≤ n ∧ iv = .int .i64 (i : Nat) ∧ L.length = n + n' ∧ TimesO l l' L (n + n') n' i ∧ Blk wr w.heap.size 100 (cellsOf L) ∧ Below w.heap.size w wr) (fun iv _ => n - (intOf iv).toNat)
  case atStart =>
    refine ⟨0, List.replicate (n + n') 0, Nat.zero_le _, rfl, by simp, ⟨by intro x hx; rw [List.eq_of_mem_replicate hx]; omega, fun j _ => ?_, ?_⟩, Blk.new _ _ _, (Below.refl _ _).alloc (Nat.le_refl _) _⟩
    · unfold wd; by_cases hj : j < n + n' <;> simp [List.getD, hj]
    · rw [Sm]
      have : ∀ m, Sm (wd (List.replicate (n + n') 0)) m = 0 := by
        intro m
        induction m with
        | zero => rfl
        | succ m ih =>
          rw [Sm, ih]
          unfold wd; by_cases hj : m < n + n' <;> simp [List.getD, hj]
      rw [this]; simp
  case round =>
    obtain ⟨i, L, hi, rfl, hLM, hI, hB, hbel⟩ := hrel
    have hKp := Lib.hid ((Kp.refl w).below hbel)
    have HI := Lib.hid hI
    have HB := Lib.hid hB
    have HLM := Lib.hid hLM
    clear hI hB hLM
    by_cases hkM : i < n
    · obtain ⟨x, hx⟩ : ∃ x, wd l i = x := ⟨_, rfl⟩
      have hx1 : x < 4294967296 := by rw [← hx]; exact wa.lt i
      have HX := Lib.hid hx
      clear hx
      go_wp2_with fail
      obtain ⟨wo, hwo⟩ : ∃ wo : World, wo = wr := ⟨_, rfl⟩
      have HWO := Lib.hid hwo
      clear hwo
      go_loopw [7, 23] (fun cv kv w2 => ∃ (k cr : Nat) (L2 : List Nat), k ≤ n' ∧ kv = .int .i64 (k : Nat) ∧ cv = .int .u64 (cr : Nat) ∧ cr < 4294967296 ∧ L2.length = n + n' ∧ TimesN l l' L2 (n + n') n' i x k cr ∧ Blk w2 w.heap.size 100 (cellsOf L2) ∧ Below w.heap.size w w2) (fun _ kv _ => n' - (intOf kv).toNat)
      case atStart => exact ⟨0, 0, L, Nat.zero_le _, rfl, rfl, by omega, HLM.out, ⟨HI.out.1, HI.out.2.1, by rw [HI.out.2.2]; simp [Sm]⟩, HB.out, hbel⟩
      case round =>
        obtain ⟨k, cr, L2, hk, rfl, rfl, hcr, hLM2, hI2, hB2, hbel2⟩ := hrel
        have hKp2 := Lib.hid ((Kp.refl w).below hbel2)
        have HI2 := Lib.hid hI2
        have HB2 := Lib.hid hB2
        have HLM2 := Lib.hid hLM2
        clear hI2 hB2 hLM2
        by_cases hkk : k < n'
        · obtain ⟨g2, o2, rfl, hgl2, hc2⟩ := (wb.keep hKp2.out).at2 (by omega)
          obtain ⟨g, o, rfl, hgl, hc1⟩ := (wa.keep hKp2.out).at2 (by omega)
          have hcx := hc1 i hkM
          rw [HX.out] at hcx
          clear hc1
          have hcy := hc2 k hkk
          obtain ⟨y, z, hy, hz⟩ : ∃ y z, wd l' k = y ∧ wd L2 (i + k) = z := ⟨_, _, rfl, rfl⟩
          have hy1 : y < 4294967296 := by rw [← hy]; exact wb.lt k
          have hz1 : z < 4294967296 := by rw [← hz]; exact wd_lt HI2.out.1 _
          rw [hy] at hcy
          have hck := HB2.out.cell (i + k)
          rw [cellsOf_get (by rw [HLM2.out]; omega), hz] at hck
          have hfk := HB2.out.frozen (i + k)
          have HY := Lib.hid hy
          have HZ := Lib.hid hz
          clear hy hz hc2
          obtain ⟨p, hp⟩ : ∃ d, IntKind.u64.wrap ((x : Int) * (y : Int)) = d := ⟨_, rfl⟩
          obtain ⟨q, hq⟩ : ∃ d, IntKind.u64.wrap (p + (z : Int)) = d := ⟨_, rfl⟩
          obtain ⟨s, hs⟩ : ∃ d, IntKind.u64.wrap (q + (cr : Int)) = d := ⟨_, rfl⟩
          have HD := Lib.hid (times_word hx1 hy1 hz1 hcr hp hq (show IntKind.u64.wrap ((cr : Int) + q) = s by rw [Int.add_comm]; exact hs))
          go_wp2
          go_quiet (fail)
          go_wp2
          obtain ⟨es, hs2⟩ := HD.out
          clear hp hq hs
          go_roundw
          case rel =>
            refine ⟨k + 1, (cr + x * y + z) / 4294967296, L2.set (i + k) ((cr + x * y + z) % 4294967296), by omega, by go_num, by rw [es]; go_num, hs2, by rw [List.length_set]; exact HLM2.out, ⟨wds_set HI2.out.1 _ (Nat.mod_lt _ (by omega)), ?_, ?_⟩, ?_, (below_drewN hbel2 _).setCell (Nat.le_refl _) _⟩
            · intro j hj; rw [wd_set, if_neg (by omega)]; exact HI2.out.2.1 j hj
            · have hm := Sm_set_mid L2 (i + k) ((cr + x * y + z) % 4294967296) (n + n') (by rw [HLM2.out]; omega) (by omega)
              rw [HZ.out] at hm
              have ht := times_step (o := z) (x := x) (y := y) (Sb := Sm (wd l') k) (Pi := 4294967296 ^ i) (Pk := 4294967296 ^ k) HI2.out.2.2 (by rw [Nat.pow_add]) hm
              rw [← Nat.add_assoc, Nat.pow_succ, Sm, HY.out]
              exact ht
            · exact (HB2.out.below (below_drewN (brefl _) _) HB2.out.lt).setW (i + k) _ _ (by rw [es]; omega)
          case measure => simp [intOf]; omega
        · have hk2 : k = n' := by omega
          have HK2 := Lib.hid hk2
          have hck := HB2.out.cell (i + n')
          have hz : wd L2 (i + n') = 0 := HI2.out.2.1 _ (by omega)
          rw [cellsOf_get (by rw [HLM2.out]; omega), hz] at hck
          have hfk := HB2.out.frozen (i + n')
          have hge : n' ≤ k := by omega
          clear hk2 hkk hz
          go_wp2
          go_roundw
          case rel =>
            refine ⟨i + 1, L2.set (i + n') cr, by omega, by go_num, by rw [List.length_set]; exact HLM2.out, ⟨wds_set HI2.out.1 _ hcr, ?_, ?_⟩, ?_, hbel2.setCell (Nat.le_refl _) _⟩
            · intro j hj; rw [wd_set, if_neg (by omega)]; exact HI2.out.2.1 j (by omega)
            · have hm := Sm_set_mid L2 (i + n') cr (n + n') (by rw [HLM2.out]; omega) (by omega)
              rw [HI2.out.2.1 _ (by omega), Nat.zero_mul, Nat.add_zero] at hm
              have h2 := HI2.out.2.2
              rw [HK2.out, Sm_ge l' (by rw [← HL'.out]; exact Nat.le_refl _)] at h2
              rw [hm, h2, Sm, HX.out, Nat.add_mul]
              congr 1
              rw [Nat.mul_assoc, Nat.mul_comm (val l'), ← Nat.mul_assoc]
            · exact HB2.out.setW (i + n') _ _ rfl
          case measure => simp [intOf]; omega
    · have hkk : i = n := by omega
      subst hkk
      have hv2 : val L = val l * val l' := by
        have h1 := HI.out.2.2
        rw [Sm_ge L (by rw [HLM.out]; exact Nat.le_refl _), Sm_ge l (by rw [← HL.out]; omega)] at h1
        exact h1
      have HV2 := Lib.hid hv2
      clear hv2
      go_wp2_with fail
      refine (r_trim_c _ _ (i + n') (i + n') L ?_ ?_).mono ?_
      · exact HB.out.wdN HI.out.1 HLM.out
      · omega
      rintro e w1 ⟨A1, n1, c1, rfl, h1, hb1⟩
      go_wp2
      go_ret
      rw [HV2.out] at h1
      exact ⟨_, _, _, rfl, h1, hbel.trans (hb1.mono hbel.size)⟩
theorem r_mul_C (w : World) (b : Bool) (A : Option Addr) (n c : Nat) (l : List Nat) (wa : Wd w A n c l) (hn : n ≤ 500000000000) (b' : Bool) (A' : Option Addr) (n' c' : Nat) (l' : List Nat) (wb : Wd w A' n' c' l') (hn' : n' ≤ 500000000000) :
    Calls Tryz.prog 70 #[.agg #[.bool b, .slice A n c], .agg #[.bool b', .slice A' n' c']] w (RetW w (wh (WD.z ⟨b, l⟩ * WD.z ⟨b', l'⟩))) := by
  have HL := Lib.hid wa.2.1
  have HL' := Lib.hid wb.2.1
  go_enter Tryz.func70, Tryz.ntmps70
  go_wp2_with fail
  have b0 : Below w.heap.size w (((w.alloc (.cells #[.bool b, .slice A n c] 77)).alloc (.cells #[.bool b', .slice A' n' c'] 77)).alloc (.cells #[.bool false, .slice none 0 0] 77)) := ((((Below.refl _ _).alloc (Nat.le_refl _) _).alloc (by simp) _).alloc (by simp; omega) _)
  generalize hW0 : (((w.alloc (.cells #[.bool b, .slice A n c] 77)).alloc (.cells #[.bool b', .slice A' n' c'] 77)).alloc (.cells #[.bool false, .slice none 0 0] 77)) = W0 at b0 ⊢
  have c00 : W0.cell? ⟨w.heap.size, 0, none⟩ = some (.bool b) := by subst hW0; simp [go_sem]
  have f00 : W0.frozen? ⟨w.heap.size, 0, none⟩ = false := by subst hW0; simp [go_sem]
  have c01 : W0.cell? ⟨w.heap.size, 1, none⟩ = some (.slice A n c) := by subst hW0; simp [go_sem]
  have f01 : W0.frozen? ⟨w.heap.size, 1, none⟩ = false := by subst hW0; simp [go_sem]
  have c10 : W0.cell? ⟨w.heap.size + 1, 0, none⟩ = some (.bool b') := by subst hW0; simp [go_sem]
  have f10 : W0.frozen? ⟨w.heap.size + 1, 0, none⟩ = false := by subst hW0; simp [go_sem]
  have c11 : W0.cell? ⟨w.heap.size + 1, 1, none⟩ = some (.slice A' n' c') := by subst hW0; simp [go_sem]
  have f11 : W0.frozen? ⟨w.heap.size + 1, 1, none⟩ = false := by subst hW0; simp [go_sem]
  have c20 : W0.cell? ⟨w.heap.size + 1 + 1, 0, none⟩ = some (.bool false) := by subst hW0; simp [go_sem]
  have f20 : W0.frozen? ⟨w.heap.size + 1 + 1, 0, none⟩ = false := by subst hW0; simp [go_sem]
  have c21 : W0.cell? ⟨w.heap.size + 1 + 1, 1, none⟩ = some (.slice none 0 0) := by subst hW0; simp [go_sem]
  have f21 : W0.frozen? ⟨w.heap.size + 1 + 1, 1, none⟩ = false := by subst hW0; simp [go_sem]
  have x0 : Box W0 w.heap.size 77 := by subst hW0; exact ((boxAt _ _ _ (by simp)).alloc _).alloc _
  have x1 : Box W0 (w.heap.size + 1) 77 := by subst hW0; exact (boxAt _ _ _ (by simp)).alloc _
  have x2 : Box W0 (w.heap.size + 1 + 1) 77 := by subst hW0; exact boxAt _ _ _ (by simp)
  have hm0 : Made (w.heap.size + 1 + 1) (w.heap.size + 1 + 1 + 1) 2 W0 := by subst hW0; exact made1 (by simp)
  have hs0 : w.heap.size + 1 + 1 + 1 ≤ W0.heap.size := by subst hW0; simp
  clear hW0
  have wa := wa.belw b0
  have wb := wb.belw b0
  have r0 : Below W0.heap.size W0 W0 := brefl _
  have hRB : w.heap.size + 1 + 1 ≤ w.heap.size + 1 + 1 + 1 := by omega
  go_region_held3 (fun w' => Sees (w.heap.size + 1 + 1) W0 w') (first | exact Sees.of (Nat.le_trans hRB hs0) (by assumption) | exact Sees.of (Nat.le_trans hRB hs0) (below_drewN (by assumption) _) | exact (Sees.set (Sees.of (Nat.le_trans hRB hs0) (by assumption)) (by simp)) | exact (Sees.set (Sees.set (Sees.of (Nat.le_trans hRB hs0) (by assumption)) (by simp)) (by simp)))
    (first
      | (go_at_call 102; (with_reducible refine (r_neg_c _ b A n c l ?_ ?_).mono ?_); (exact wa); (omega); rintro e w1 ⟨rfl, hb1⟩; replace hb1 := bnext (below_drewN (brefl _) 1) hb1; have r1 := bnext r0 hb1; replace wa := wa.belw hb1; replace wb := wb.belw hb1)
      | (go_at_call 102; (with_reducible refine (r_neg_c _ b' A' n' c' l' ?_ ?_).mono ?_); (exact wb); (omega); rintro e w2 ⟨rfl, hb2⟩; have r2 := bnext r1 hb2; replace wa := wa.belw hb2; replace wb := wb.belw hb2)
      | (go_at_call 101; (with_reducible refine (r_mag_c _ b A n c l ?_ ?_).mono ?_); (exact wa); (omega); rintro e w3 ⟨A1, n1, c1, rfl, h1, hb3⟩; have r3 := bnext r2 hb3; replace wa := wa.belw hb3; replace wb := wb.belw hb3)
      | (go_at_call 101; (with_reducible refine (r_mag_c _ b' A' n' c' l' ?_ ?_).mono ?_); (exact wb); (omega); rintro e w4 ⟨A2, n2, c2, rfl, h2, hb4⟩; have r4 := bnext r3 hb4; replace wa := wa.belw hb4; replace wb := wb.belw hb4; replace h1 := h1.belw hb4)
      | (go_at_call 106; (with_reducible refine (r_times_c _ A1 n1 c1 (WD.m ⟨b, l⟩) ?_ ?_ A2 n2 c2 (WD.m ⟨b', l'⟩) ?_ ?_).mono ?_); (exact h1); (exact Nat.le_trans (h1.m_len (by rw [← HL.out]; exact hn)) (by decide)); (exact h2); (exact Nat.le_trans (h2.m_len (by rw [← HL'.out]; exact hn')) (by decide)); rintro e w5 ⟨A3, n3, c3, rfl, h3, hb5⟩; have r5 := bnext r4 hb5; replace wa := wa.belw hb5; replace wb := wb.belw hb5; replace h1 := h1.belw hb5; replace h2 := h2.belw hb5)
      | (go_at_call 100; (with_reducible refine (r_form_e _ (!(WD.s ⟨b, l⟩ == WD.s ⟨b', l'⟩)) A3 n3 c3 (digs (val (WD.m ⟨b, l⟩) * val (WD.m ⟨b', l'⟩))) (WD.z ⟨b, l⟩ * WD.z ⟨b', l'⟩) ?_ ?_ ?_).mono ?_); (exact h3); (rw [h3.2.1]; exact times_len h1 h2 (Nat.le_trans (Nat.add_le_add (h1.m_len (by rw [← HL.out]; exact hn)) (h2.m_len (by rw [← HL'.out]; exact hn'))) (by decide))); (rw [val_digs]; exact (z_mul _ _).symm); rintro e w6 ⟨A4, n4, c4, rfl, h4, hb6⟩; have r6 := bnext r5 hb6; replace wa := wa.belw hb6; replace wb := wb.belw hb6; replace h1 := h1.belw hb6; replace h2 := h2.belw hb6; replace h3 := h3.belw hb6; obtain ⟨⟨sc, sf⟩, sr, sz⟩ := Seen.of (by omega) hs0 hm0 r6))
  clear hRB
  go_wp2_with fail
  refine bodyPost_ret (v := .agg #[.bool _, .slice A4 n4 c4]) (by simp [results, Tryz.results70, go_sem, sr]; rfl) rfl ?_
  have x := x2.below r6
  refine retW ?_ ?_ ?_
  · rfl
  · exact h4.keep (kp2 x (by decide) _ _ _ _)
  · exact ((b0.trans (r6.mono b0.size)).setCell (by dsimp only; omega) _).setCell (by dsimp only; omega) _
end Go.Proofs.YtianjkiakkclgaaGreatDoor

/- The reference's Mul on integers. -/
namespace Go.Proofs.YtianjkiakkclgaaGreatDoor
open Go Go.RowKit Bn
theorem r01_mul (w : World) (b : Bool) (A : Option Addr) (n c : Nat) (z : Int) (k : Nat) (h : IZ w b A n c z k) (b' : Bool) (A' : Option Addr) (n' c' : Nat) (z' : Int) (k' : Nat) (h' : IZ w b' A' n' c' z' k') (hk : k + k' ≤ 1000000000) : Calls Tryz.prog 70 #[.agg #[.bool b, .slice A n c], .agg #[.bool b', .slice A' n' c']] w (RetI w (z * z') (k + k')) := by
  have hz := h.lt
  have hz' := h'.lt
  obtain ⟨l, h1, rfl, h3⟩ := h
  obtain ⟨l', h1', rfl, h3'⟩ := h'
  exact (r_mul_C w b A n c l h1 (by omega) b' A' n' c' l' h1' (by omega)).mono fun _ _ r => r.i (natAbs_mul_lt hz hz')
end Go.Proofs.YtianjkiakkclgaaGreatDoor

/- Walks: the reference: fractions, sums and differences. -/
namespace Go.Proofs.YtianjkiakkclgaaGreatDoor
open Go Go.RowKit Bn
attribute [local go_sem ↓] Go.wp_at_zero Go.wp_at_succ
theorem g_neg (w : World) (b : Bool) (A : Option Addr) (n c : Nat) (D : Option Addr) (m e : Nat) (q : Rat) (k : Nat) (h : QZ w b A n c D m e q k) (h0 : 0 < k) (hk : k ≤ 40000000) :
    Calls Tryz.prog 96 #[.agg #[.bool b, .slice A n c, .slice D m e]] w (RetF w (-q) k) := by
  have HS := Lib.hid (h.sz h0)
  go_enter Tryz.func96, Tryz.ntmps96
  go_wp2_with fail
  (with_reducible refine (g_parts _ b A n c D m e (q) (k) ?_ ?_ ?_).mono ?_); (exact (h.belw (((Below.refl _ _).alloc (Nat.le_refl _) _).alloc (by simp) _))); (first | omega | decide | assumption); (first | omega | decide | assumption); rintro e w1 ⟨b1, A1, n1, c1, b'1, A'1, n'1, c'1, rfl, h1, h'1, hb1⟩
  have q1 := (((Below.refl _ _).alloc (Nat.le_refl _) _).alloc (by simp) _).trans (hb1.mono (by simp <;> omega))
  replace h := h.belw q1
  have x1a : Blk w1 w.heap.size 24 #[.bool b, .slice A n c, .slice D m e] := ((blkAt _ _ _ (by simp)).alloc _).below hb1 (by simp <;> omega)
  have x1b := (blkAt _ _ _ (g := w.heap.size + 1) (by simp)).below hb1 (by simp)
  have bw1 := (brefl w).trans (q1.mono (brefl w).size)
  have lw1 : w.heap.size + 2 ≤ w1.heap.size := by have := hb1.size; simp at this; omega
  clear q1
  go_wp2_with fail
  have p2 := (((Kp.refl w1).alloc (.cells #[.bool b1, .slice A1 n1 c1] 77)).alloc (.cells #[.bool b'1, .slice A'1 n'1 c'1] 77))
  have bw2 := ((bw1.alloc (by first | omega | (simp <;> omega)) (.cells #[.bool b1, .slice A1 n1 c1] 77)).alloc (by first | omega | (simp <;> omega)) (.cells #[.bool b'1, .slice A'1 n'1 c'1] 77))
  have x2a : Blk ((w1.alloc (.cells #[.bool b1, .slice A1 n1 c1] 77)).alloc (.cells #[.bool b'1, .slice A'1 n'1 c'1] 77)) w1.heap.size 77 #[.bool b1, .slice A1 n1 c1] := ((blkAt _ _ _ (by simp)).alloc (.cells #[.bool b'1, .slice A'1 n'1 c'1] 77))
  have x2b : Blk ((w1.alloc (.cells #[.bool b1, .slice A1 n1 c1] 77)).alloc (.cells #[.bool b'1, .slice A'1 n'1 c'1] 77)) (w1.heap.size + 1) 77 #[.bool b'1, .slice A'1 n'1 c'1] := (blkAt _ _ _ (by simp))
  replace x1a := ((x1a.alloc (.cells #[.bool b1, .slice A1 n1 c1] 77)).alloc (.cells #[.bool b'1, .slice A'1 n'1 c'1] 77))
  replace x1b := ((x1b.alloc (.cells #[.bool b1, .slice A1 n1 c1] 77)).alloc (.cells #[.bool b'1, .slice A'1 n'1 c'1] 77))
  have lw2 : w1.heap.size + 2 ≤ ((w1.alloc (.cells #[.bool b1, .slice A1 n1 c1] 77)).alloc (.cells #[.bool b'1, .slice A'1 n'1 c'1] 77)).heap.size := by simp
  generalize hE2 : ((w1.alloc (.cells #[.bool b1, .slice A1 n1 c1] 77)).alloc (.cells #[.bool b'1, .slice A'1 n'1 c'1] 77)) = w2 at p2 bw2 lw2 x2a x2b x1a x1b ⊢
  clear hE2
  replace h := h.keep p2
  replace h1 := h1.keep p2
  replace h'1 := h'1.keep p2
  clear bw1
  obtain ⟨lx1aa, lx1ab, lx1ac, lx1ad⟩ := lts0 x1a.lt
  have cx1ba : w2.cell? ⟨w.heap.size + 1, 0, none⟩ = some (.bool false) := x1b.cell 0
  have fx1ba : w2.frozen? ⟨w.heap.size + 1, 0, none⟩ = false := x1b.frozen 0
  have cx1bb : w2.cell? ⟨w.heap.size + 1, 1, none⟩ = some (.slice none 0 0) := x1b.cell 1
  have fx1bb : w2.frozen? ⟨w.heap.size + 1, 1, none⟩ = false := x1b.frozen 1
  have cx1bc : w2.cell? ⟨w.heap.size + 1, 2, none⟩ = some (.slice none 0 0) := x1b.cell 2
  have fx1bc : w2.frozen? ⟨w.heap.size + 1, 2, none⟩ = false := x1b.frozen 2
  obtain ⟨lx1ba, lx1bb, lx1bc, lx1bd⟩ := lts1 x1b.lt
  obtain ⟨cx2aa, cx2ab⟩ := x2a.c2
  obtain ⟨lx2aa, lx2ab, lx2ac, lx2ad⟩ := lts0 x2a.lt
  obtain ⟨cx2ba, cx2bb⟩ := x2b.c2
  obtain ⟨lx2ba, lx2bb, lx2bc, lx2bd⟩ := lts1 x2b.lt
  have nfx1_0_0 : ¬ w.heap.size = w.heap.size + 1 := by omega
  have nex1_0_0 : ¬ w.heap.size = w.heap.size + 1 := by omega
  have nfx2_0_0 : ¬ w1.heap.size = w.heap.size + 1 := by omega
  have nex2_0_0 : ¬ w1.heap.size = w.heap.size + 1 := by omega
  have nfx2_1_0 : ¬ w1.heap.size + 1 = w.heap.size + 1 := by omega
  have nex2_1_0 : ¬ w1.heap.size = w.heap.size := by omega
  go_region_held3 (fun w' => SeesX w2.heap.size (w.heap.size + 1) w2 w') (first | with_reducible exact SeesX.of (Nat.le_refl _) (by assumption) | with_reducible exact SeesX.of (Nat.le_refl _) (brefl _).drew | with_reducible exact (SeesX.set (SeesX.set (SeesX.set (SeesX.of (Nat.le_refl _) (by assumption))))) | with_reducible exact (SeesX.set (SeesX.set (SeesX.of (Nat.le_refl _) (by assumption)))) | with_reducible exact (SeesX.set (SeesX.of (Nat.le_refl _) (by assumption))) | exact SeesX.of (Nat.le_refl _) (below_drewN (brefl _) 1) | exact SeesX.of (Nat.le_refl _) (below_drewN (by assumption) _))
    (first
      | (go_at_call 97; (with_reducible refine (r01_neg _ b1 A1 n1 c1 ((q).num) ((k)) ?_ ?_).mono ?_); (exact h1.iz); (first | omega | decide | assumption); rintro e w3 ⟨b3, A3, n3, c3, rfl, h3, hb3⟩; replace hb3 := bnext (below_drewN (brefl _) 1) hb3; have q3 : Below w2.heap.size w2 w3 := bnext (brefl w2) hb3; replace h := h.belw hb3; replace h1 := h1.belw hb3; replace h'1 := h'1.belw hb3)
      | (go_at_call 64; (with_reducible refine (g_form _ b3 A3 n3 c3 (-((q).num)) (((k))) ?_ b'1 A'1 n'1 c'1 (((q).den : Int)) ((k)) ?_ (-q) (k) ?_ ?_ ?_ ?_).mono ?_); (exact h3.iz); (exact h'1.iz); (exact den_ne _); (exact (neg_q q).symm); (exact Sz_neg HS.out); (omega); rintro e w4 ⟨b4, A4, n4, c4, A'4, n'4, c'4, rfl, h4, hb4⟩; have q4 : Below w2.heap.size w2 w4 := bnext q3 hb4; replace h := h.belw hb4; replace h1 := h1.belw hb4; replace h'1 := h'1.belw hb4; replace h3 := h3.belw hb4; have x1b := x1b.b q4; obtain ⟨cx1ba, cx1bb, cx1bc⟩ := x1b.c3; obtain ⟨fx1ba, fx1bb, fx1bc⟩ := x1b.f3))
  have bw4 := bw2.trans (q4.mono bw2.size)
  clear lx1aa lx1ab lx1ac lx1ad cx1ba fx1ba cx1bb fx1bb cx1bc fx1bc lx1ba lx1bb lx1bc lx1bd cx2aa cx2ab lx2aa lx2ab lx2ac lx2ad cx2ba cx2bb lx2ba lx2bb lx2bc lx2bd
  replace x1a := x1a.b q4
  replace x2a := x2a.b q4
  replace x2b := x2b.b q4
  have lw4 := q4.size
  obtain ⟨cx1ba, cx1bb, cx1bc⟩ := x1b.c3
  obtain ⟨fx1ba, fx1bb, fx1bc⟩ := x1b.f3
  go_wp2_with fail
  refine bodyPost_ret (v := .agg #[.bool b4, .slice A4 n4 c4, .slice A'4 n'4 c'4]) (by simp [results, Tryz.results96, go_sem, *] <;> first | rfl | exact ⟨rfl, rfl⟩) rfl ?_
  exact ⟨b4, A4, n4, c4, A'4, n'4, c'4, rfl, h4.keep ((((Kp.refl w4).sb (w.heap.size + 1) 0 x1b.box (by decide) (.bool b4)).sb (w.heap.size + 1) 1 (x1b.box.set ⟨w.heap.size + 1, 0, none⟩ (.bool b4)) (by decide) (.slice A4 n4 c4)).sb (w.heap.size + 1) 2 ((x1b.box.set ⟨w.heap.size + 1, 0, none⟩ (.bool b4)).set ⟨w.heap.size + 1, 1, none⟩ (.slice A4 n4 c4)) (by decide) (.slice A'4 n'4 c'4)), (((bw4.sc (w.heap.size + 1) 0 (by omega) (.bool b4)).sc (w.heap.size + 1) 1 (by omega) (.slice A4 n4 c4)).sc (w.heap.size + 1) 2 (by omega) (.slice A'4 n'4 c'4))⟩
theorem g_add (w : World) (b : Bool) (A : Option Addr) (n c : Nat) (D : Option Addr) (m e : Nat) (q : Rat) (k : Nat) (h : QZ w b A n c D m e q k) (b' : Bool) (A' : Option Addr) (n' c' : Nat) (D' : Option Addr) (m' e' : Nat) (q' : Rat) (k' : Nat) (h' : QZ w b' A' n' c' D' m' e' q' k') (h0 : 0 < k) (hk : k ≤ 40000000) (h0' : 0 < k') (hk' : k' ≤ 40000000) :
    Calls Tryz.prog 37 #[.agg #[.bool b, .slice A n c, .slice D m e], .agg #[.bool b', .slice A' n' c', .slice D' m' e']] w (RetF w (q + q') (k + k' + 1)) := by
  have HS := Lib.hid (h.sz h0)
  have HS' := Lib.hid (h'.sz h0')
  go_enter Tryz.func37, Tryz.ntmps37
  go_wp2_with fail
  (with_reducible refine (g_parts _ b A n c D m e (q) (k) ?_ ?_ ?_).mono ?_); (exact (h.belw ((((Below.refl _ _).alloc (Nat.le_refl _) _).alloc (by simp) _).alloc (by simp <;> omega) _))); (first | omega | decide | assumption); (first | omega | decide | assumption); rintro e w1 ⟨b1, A1, n1, c1, b'1, A'1, n'1, c'1, rfl, h1, h'1, hb1⟩
  have q1 := ((((Below.refl _ _).alloc (Nat.le_refl _) _).alloc (by simp) _).alloc (by simp <;> omega) _).trans (hb1.mono (by simp <;> omega))
  replace h := h.belw q1
  replace h' := h'.belw q1
  have x1a : Blk w1 w.heap.size 24 #[.bool b, .slice A n c, .slice D m e] := (((blkAt _ _ _ (by simp)).alloc _).alloc _).below hb1 (by simp <;> omega)
  have x1b := ((blkAt _ _ _ (g := w.heap.size + 1) (by simp)).alloc _).below hb1 (by simp <;> omega)
  have x1c := (blkAt _ _ _ (g := w.heap.size + 1 + 1) (by simp)).below hb1 (by simp)
  have bw1 := (brefl w).trans (q1.mono (brefl w).size)
  have lw1 : w.heap.size + 3 ≤ w1.heap.size := by have := hb1.size; simp at this; omega
  clear q1
  obtain ⟨cx1ba, cx1bb, cx1bc⟩ := x1b.c3
  obtain ⟨lx1ba, lx1bb, lx1bc, lx1bd⟩ := lts1 x1b.lt
  go_wp2_with fail
  (with_reducible refine (g_parts _ b' A' n' c' D' m' e' (q') (k') ?_ ?_ ?_).mono ?_); (exact (h'.belw (((Below.refl _ _).alloc (Nat.le_refl _) _).alloc (by simp) _))); (first | omega | decide | assumption); (first | omega | decide | assumption); rintro e w2 ⟨b2, A2, n2, c2, b'2, A'2, n'2, c'2, rfl, h2, h'2, hb2⟩
  clear cx1ba cx1bb cx1bc lx1ba lx1bb lx1bc lx1bd
  have q2 := (((Below.refl _ _).alloc (Nat.le_refl _) _).alloc (by simp) _).trans (hb2.mono (by simp <;> omega))
  replace h := h.belw q2
  replace h' := h'.belw q2
  replace h1 := h1.belw q2
  replace h'1 := h'1.belw q2
  replace x1a := x1a.b q2
  replace x1b := x1b.b q2
  replace x1c := x1c.b q2
  have x2a : Blk w2 w1.heap.size 77 #[.bool b1, .slice A1 n1 c1] := ((blkAt _ _ _ (by simp)).alloc _).below hb2 (by simp <;> omega)
  have x2b := (blkAt _ _ _ (g := w1.heap.size + 1) (by simp)).below hb2 (by simp)
  have bw2 := bw1.trans (q2.mono bw1.size)
  have lw2 : w1.heap.size + 2 ≤ w2.heap.size := by have := hb2.size; simp at this; omega
  clear q2 bw1
  go_wp2_with fail
  have p3 := (((Kp.refl w2).alloc (.cells #[.bool b2, .slice A2 n2 c2] 77)).alloc (.cells #[.bool b'2, .slice A'2 n'2 c'2] 77))
  have bw3 := ((bw2.alloc (by first | omega | (simp <;> omega)) (.cells #[.bool b2, .slice A2 n2 c2] 77)).alloc (by first | omega | (simp <;> omega)) (.cells #[.bool b'2, .slice A'2 n'2 c'2] 77))
  have x3a : Blk ((w2.alloc (.cells #[.bool b2, .slice A2 n2 c2] 77)).alloc (.cells #[.bool b'2, .slice A'2 n'2 c'2] 77)) w2.heap.size 77 #[.bool b2, .slice A2 n2 c2] := ((blkAt _ _ _ (by simp)).alloc (.cells #[.bool b'2, .slice A'2 n'2 c'2] 77))
  have x3b : Blk ((w2.alloc (.cells #[.bool b2, .slice A2 n2 c2] 77)).alloc (.cells #[.bool b'2, .slice A'2 n'2 c'2] 77)) (w2.heap.size + 1) 77 #[.bool b'2, .slice A'2 n'2 c'2] := (blkAt _ _ _ (by simp))
  replace x1a := ((x1a.alloc (.cells #[.bool b2, .slice A2 n2 c2] 77)).alloc (.cells #[.bool b'2, .slice A'2 n'2 c'2] 77))
  replace x1b := ((x1b.alloc (.cells #[.bool b2, .slice A2 n2 c2] 77)).alloc (.cells #[.bool b'2, .slice A'2 n'2 c'2] 77))
  replace x1c := ((x1c.alloc (.cells #[.bool b2, .slice A2 n2 c2] 77)).alloc (.cells #[.bool b'2, .slice A'2 n'2 c'2] 77))
  replace x2a := ((x2a.alloc (.cells #[.bool b2, .slice A2 n2 c2] 77)).alloc (.cells #[.bool b'2, .slice A'2 n'2 c'2] 77))
  replace x2b := ((x2b.alloc (.cells #[.bool b2, .slice A2 n2 c2] 77)).alloc (.cells #[.bool b'2, .slice A'2 n'2 c'2] 77))
  have lw3 : w2.heap.size + 2 ≤ ((w2.alloc (.cells #[.bool b2, .slice A2 n2 c2] 77)).alloc (.cells #[.bool b'2, .slice A'2 n'2 c'2] 77)).heap.size := by simp
  generalize hE3 : ((w2.alloc (.cells #[.bool b2, .slice A2 n2 c2] 77)).alloc (.cells #[.bool b'2, .slice A'2 n'2 c'2] 77)) = w3 at p3 bw3 lw3 x3a x3b x1a x1b x1c x2a x2b ⊢
  clear hE3
  replace h := h.keep p3
  replace h' := h'.keep p3
  replace h1 := h1.keep p3
  replace h'1 := h'1.keep p3
  replace h2 := h2.keep p3
  replace h'2 := h'2.keep p3
  clear bw2
  obtain ⟨cx2aa, cx2ab⟩ := x2a.c2
  obtain ⟨lx2aa, lx2ab, lx2ac, lx2ad⟩ := lts0 x2a.lt
  obtain ⟨cx2ba, cx2bb⟩ := x2b.c2
  obtain ⟨lx2ba, lx2bb, lx2bc, lx2bd⟩ := lts1 x2b.lt
  obtain ⟨cx3aa, cx3ab⟩ := x3a.c2
  obtain ⟨lx3aa, lx3ab, lx3ac, lx3ad⟩ := lts0 x3a.lt
  obtain ⟨cx3ba, cx3bb⟩ := x3b.c2
  obtain ⟨lx3ba, lx3bb, lx3bc, lx3bd⟩ := lts1 x3b.lt
  refine wp_region_lin (B := w.heap.size) (fr := fun xf => ⟨List.toArray (.agg #[.bool b, .slice A n c, .slice D m e] :: .agg #[.bool b', .slice A' n' c', .slice D' m' e'] :: .pointer (some ⟨w.heap.size, 0, none⟩) :: .pointer (some ⟨w.heap.size + 1, 0, none⟩) :: .pointer (some ⟨w.heap.size + 1 + 1, 0, none⟩) :: .pointer (some ⟨w1.heap.size, 0, none⟩) :: .pointer (some ⟨w1.heap.size + 1, 0, none⟩) :: .pointer (some ⟨w2.heap.size, 0, none⟩) :: .pointer (some ⟨w2.heap.size + 1, 0, none⟩) :: .tuple #[.agg #[.bool b1, .slice A1 n1 c1], .agg #[.bool b'1, .slice A'1 n'1 c'1]] :: .agg #[.bool b, .slice A n c, .slice D m e] :: .tuple #[.agg #[.bool b1, .slice A1 n1 c1], .agg #[.bool b'1, .slice A'1 n'1 c'1]] :: .agg #[.bool b1, .slice A1 n1 c1] :: .agg #[.bool b'1, .slice A'1 n'1 c'1] :: .tuple #[.agg #[.bool b2, .slice A2 n2 c2], .agg #[.bool b'2, .slice A'2 n'2 c'2]] :: .agg #[.bool b', .slice A' n' c', .slice D' m' e'] :: .tuple #[.agg #[.bool b2, .slice A2 n2 c2], .agg #[.bool b'2, .slice A'2 n'2 c'2]] :: .agg #[.bool b2, .slice A2 n2 c2] :: .agg #[.bool b'2, .slice A'2 n'2 c'2] :: xf 0 :: xf 1 :: xf 2 :: xf 3 :: xf 4 :: xf 5 :: xf 6 :: xf 7 :: xf 8 :: xf 9 :: xf 10 :: []), []⟩) (R := fun i => List.getD ((PEq (.agg #[.bool b1, .slice A1 n1 c1])) :: (PEq (.agg #[.bool b'2, .slice A'2 n'2 c'2])) :: (VI (((q).num) * (((q').den : Int))) (((k)) + ((k')))) :: (PEq (.agg #[.bool b2, .slice A2 n2 c2])) :: (PEq (.agg #[.bool b'1, .slice A'1 n'1 c'1])) :: (VI (((q').num) * (((q).den : Int))) (((k')) + ((k)))) :: (VI ((((q).num) * (((q').den : Int))) + (((q').num) * (((q).den : Int)))) ((((k)) + ((k'))) + (((k')) + ((k))) + 1)) :: (PEq (.agg #[.bool b'1, .slice A'1 n'1 c'1])) :: (PEq (.agg #[.bool b'2, .slice A'2 n'2 c'2])) :: (VI ((((q).den : Int)) * (((q').den : Int))) (((k)) + ((k')))) :: (VQ (q + q') (k + k' + 1)) :: PAny :: []) i (fun _ _ => True)) (es := []) (ow := [⟨w.heap.size, 12, 0, 24, #[.bool b, .slice A n c, .slice D m e], CAny⟩, ⟨w.heap.size + 1, 12, 0, 24, #[.bool b', .slice A' n' c', .slice D' m' e'], CAny⟩, ⟨w.heap.size + 1 + 1, 11, 0, 24, #[.bool false, .slice none 0 0, .slice none 0 0], CQ (q + q') (k + k' + 1)⟩, ⟨w1.heap.size, 12, 0, 77, #[.bool b1, .slice A1 n1 c1], CAny⟩, ⟨w1.heap.size + 1, 12, 0, 77, #[.bool b'1, .slice A'1 n'1 c'1], CAny⟩, ⟨w2.heap.size, 12, 0, 77, #[.bool b2, .slice A2 n2 c2], CAny⟩, ⟨w2.heap.size + 1, 12, 0, 77, #[.bool b'2, .slice A'2 n'2 c'2], CAny⟩]) (x0 := (fun _ => undef)) (by kernel_rfl)
    (each_of ⟨fun _ _ => rfl, fun _ _ => rfl, fun _ _ => rfl, fun _ _ => rfl, fun _ _ => rfl, fun _ _ => rfl, fun _ _ => rfl, fun _ _ => rfl, fun _ _ => rfl, fun _ _ => rfl, fun _ _ => rfl, fun _ _ => rfl, trivial⟩) (each_of (acyc_from _ 0 (by kernel_rfl))) (AllStab.get _ ⟨stEq _, stEq _, stI _ _, stEq _, stEq _, stI _ _, stI _ _, stEq _, stEq _, stI _ _, stQ _ _, stAny, trivial⟩)
    (fun _ h => nomatch h) (List.forall_mem_cons.2 ⟨scAny, List.forall_mem_cons.2 ⟨scAny, List.forall_mem_cons.2 ⟨scQ _ _, List.forall_mem_cons.2 ⟨scAny, List.forall_mem_cons.2 ⟨scAny, List.forall_mem_cons.2 ⟨scAny, List.forall_mem_cons.2 ⟨scAny, fun _ h => nomatch h⟩⟩⟩⟩⟩⟩⟩) (fun _ h => nomatch h) bw3.size
    (List.forall_mem_cons.2 ⟨⟨x1a, by show w.heap.size ≤ w.heap.size; omega⟩, List.forall_mem_cons.2 ⟨⟨x1b, by show w.heap.size ≤ w.heap.size + 1; omega⟩, List.forall_mem_cons.2 ⟨⟨x1c, by show w.heap.size ≤ w.heap.size + 1 + 1; omega⟩, List.forall_mem_cons.2 ⟨⟨x2a, by show w.heap.size ≤ w1.heap.size; omega⟩, List.forall_mem_cons.2 ⟨⟨x2b, by show w.heap.size ≤ w1.heap.size + 1; omega⟩, List.forall_mem_cons.2 ⟨⟨x3a, by show w.heap.size ≤ w2.heap.size; omega⟩, List.forall_mem_cons.2 ⟨⟨x3b, by show w.heap.size ≤ w2.heap.size + 1; omega⟩, fun _ h => nomatch h⟩⟩⟩⟩⟩⟩⟩) (ownDist (by simp <;> omega))
    (each_of ⟨?_, ?_, ?_, ?_, ?_, ?_, ?_, ?_, ?_, ?_, ?_, ?_, trivial⟩) ?_
  · exact .inl ⟨by simp, by simp, fun xf wq hk hbl hd K hK => by
      have y : Blk wq w1.heap.size 77 #[.bool b1, .slice A1 n1 c1] := hbl _ (List.Mem.tail _ (List.Mem.tail _ (List.Mem.tail _ (List.Mem.head _)))) (by simp [Region.binds])
      obtain ⟨hcl0, hcl1⟩ := y.c2
      (try dsimp only)
      go_simp
      exact hK.out (.agg #[.bool b1, .slice A1 n1 c1]) _ rfl (brefl _)⟩
  · exact .inl ⟨by simp, by simp, fun xf wq hk hbl hd K hK => by
      have y : Blk wq (w2.heap.size + 1) 77 #[.bool b'2, .slice A'2 n'2 c'2] := hbl _ (List.Mem.tail _ (List.Mem.tail _ (List.Mem.tail _ (List.Mem.tail _ (List.Mem.tail _ (List.Mem.tail _ (List.Mem.head _))))))) (by simp [Region.binds])
      obtain ⟨hcl0, hcl1⟩ := y.c2
      (try dsimp only)
      go_simp
      exact hK.out (.agg #[.bool b'2, .slice A'2 n'2 c'2]) _ rfl (brefl _)⟩
  · exact .inl ⟨by simp, by simp, fun xf wq hk hbl hd K hK => by
      have d0 : xf 0 = .agg #[.bool b1, .slice A1 n1 c1] := hd ⟨0, .data⟩ (by simp) rfl
      have d1 : xf 1 = .agg #[.bool b'2, .slice A'2 n'2 c'2] := hd ⟨1, .data⟩ (by simp) rfl
      (try dsimp only); (try simp only [d0, d1])
      go_simp
      go_at_call 70
      (with_reducible refine (r01_mul _ b1 A1 n1 c1 ((q).num) ((k)) ?_ b'2 A'2 n'2 c'2 (((q').den : Int)) ((k')) ?_ ?_).mono ?_); (exact (h1.keep hk).iz); (exact (h'2.keep hk).iz); (first | omega | decide | assumption); rintro e wr ⟨b5, A5, n5, c5, rfl, h5, hbr⟩
      have hz := hK.out _ _ ⟨b5, A5, n5, c5, rfl, h5⟩ hbr
      simp only [d0, d1] at hz
      exact hz⟩
  · exact .inl ⟨by simp, by simp, fun xf wq hk hbl hd K hK => by
      have y : Blk wq w2.heap.size 77 #[.bool b2, .slice A2 n2 c2] := hbl _ (List.Mem.tail _ (List.Mem.tail _ (List.Mem.tail _ (List.Mem.tail _ (List.Mem.tail _ (List.Mem.head _)))))) (by simp [Region.binds])
      obtain ⟨hcl0, hcl1⟩ := y.c2
      (try dsimp only)
      go_simp
      exact hK.out (.agg #[.bool b2, .slice A2 n2 c2]) _ rfl (brefl _)⟩
  · exact .inl ⟨by simp, by simp, fun xf wq hk hbl hd K hK => by
      have y : Blk wq (w1.heap.size + 1) 77 #[.bool b'1, .slice A'1 n'1 c'1] := hbl _ (List.Mem.tail _ (List.Mem.tail _ (List.Mem.tail _ (List.Mem.tail _ (List.Mem.head _))))) (by simp [Region.binds])
      obtain ⟨hcl0, hcl1⟩ := y.c2
      (try dsimp only)
      go_simp
      exact hK.out (.agg #[.bool b'1, .slice A'1 n'1 c'1]) _ rfl (brefl _)⟩
  · exact .inl ⟨by simp, by simp, fun xf wq hk hbl hd K hK => by
      have d3 : xf 3 = .agg #[.bool b2, .slice A2 n2 c2] := hd ⟨3, .data⟩ (by simp) rfl
      have d4 : xf 4 = .agg #[.bool b'1, .slice A'1 n'1 c'1] := hd ⟨4, .data⟩ (by simp) rfl
      (try dsimp only); (try simp only [d3, d4])
      go_simp
      go_at_call 70
      (with_reducible refine (r01_mul _ b2 A2 n2 c2 ((q').num) ((k')) ?_ b'1 A'1 n'1 c'1 (((q).den : Int)) ((k)) ?_ ?_).mono ?_); (exact (h2.keep hk).iz); (exact (h'1.keep hk).iz); (first | omega | decide | assumption); rintro e wr ⟨b6, A6, n6, c6, rfl, h6, hbr⟩
      have hz := hK.out _ _ ⟨b6, A6, n6, c6, rfl, h6⟩ hbr
      simp only [d3, d4] at hz
      exact hz⟩
  · exact .inl ⟨by simp, by simp, fun xf wq hk hbl hd K hK => by
      obtain ⟨b5, A5, n5, c5, d2, h5⟩ : VI (((q).num) * (((q').den : Int))) (((k)) + ((k'))) (xf 2) wq := hd ⟨2, .data⟩ (by simp) rfl
      obtain ⟨b6, A6, n6, c6, d5, h6⟩ : VI (((q').num) * (((q).den : Int))) (((k')) + ((k))) (xf 5) wq := hd ⟨5, .data⟩ (by simp) rfl
      (try dsimp only); (try simp only [d2, d5])
      go_simp
      go_at_call 69
      (with_reducible refine (r01_add _ b5 A5 n5 c5 (((q).num) * (((q').den : Int))) (((k)) + ((k'))) ?_ b6 A6 n6 c6 (((q').num) * (((q).den : Int))) (((k')) + ((k))) ?_ ?_).mono ?_); (exact h5.iz); (exact h6.iz); (first | omega | decide | assumption); rintro e wr ⟨b7, A7, n7, c7, rfl, h7, hbr⟩
      have hz := hK.out _ _ ⟨b7, A7, n7, c7, rfl, h7⟩ hbr
      simp only [d2, d5] at hz
      exact hz⟩
  · exact .inl ⟨by simp, by simp, fun xf wq hk hbl hd K hK => by
      have y : Blk wq (w1.heap.size + 1) 77 #[.bool b'1, .slice A'1 n'1 c'1] := hbl _ (List.Mem.tail _ (List.Mem.tail _ (List.Mem.tail _ (List.Mem.tail _ (List.Mem.head _))))) (by simp [Region.binds])
      obtain ⟨hcl0, hcl1⟩ := y.c2
      (try dsimp only)
      go_simp
      exact hK.out (.agg #[.bool b'1, .slice A'1 n'1 c'1]) _ rfl (brefl _)⟩
  · exact .inl ⟨by simp, by simp, fun xf wq hk hbl hd K hK => by
      have y : Blk wq (w2.heap.size + 1) 77 #[.bool b'2, .slice A'2 n'2 c'2] := hbl _ (List.Mem.tail _ (List.Mem.tail _ (List.Mem.tail _ (List.Mem.tail _ (List.Mem.tail _ (List.Mem.tail _ (List.Mem.head _))))))) (by simp [Region.binds])
      obtain ⟨hcl0, hcl1⟩ := y.c2
      (try dsimp only)
      go_simp
      exact hK.out (.agg #[.bool b'2, .slice A'2 n'2 c'2]) _ rfl (brefl _)⟩
  · exact .inl ⟨by simp, by simp, fun xf wq hk hbl hd K hK => by
      have d7 : xf 7 = .agg #[.bool b'1, .slice A'1 n'1 c'1] := hd ⟨7, .data⟩ (by simp) rfl
      have d8 : xf 8 = .agg #[.bool b'2, .slice A'2 n'2 c'2] := hd ⟨8, .data⟩ (by simp) rfl
      (try dsimp only); (try simp only [d7, d8])
      go_simp
      go_at_call 70
      (with_reducible refine (r01_mul _ b'1 A'1 n'1 c'1 (((q).den : Int)) ((k)) ?_ b'2 A'2 n'2 c'2 (((q').den : Int)) ((k')) ?_ ?_).mono ?_); (exact (h'1.keep hk).iz); (exact (h'2.keep hk).iz); (first | omega | decide | assumption); rintro e wr ⟨b8, A8, n8, c8, rfl, h8, hbr⟩
      have hz := hK.out _ _ ⟨b8, A8, n8, c8, rfl, h8⟩ hbr
      simp only [d7, d8] at hz
      exact hz⟩
  · exact .inl ⟨by simp, by simp, fun xf wq hk hbl hd K hK => by
      obtain ⟨b7, A7, n7, c7, d6, h7⟩ : VI ((((q).num) * (((q').den : Int))) + (((q').num) * (((q).den : Int)))) ((((k)) + ((k'))) + (((k')) + ((k))) + 1) (xf 6) wq := hd ⟨6, .data⟩ (by simp) rfl
      obtain ⟨b8, A8, n8, c8, d9, h8⟩ : VI ((((q).den : Int)) * (((q').den : Int))) (((k)) + ((k'))) (xf 9) wq := hd ⟨9, .data⟩ (by simp) rfl
      (try dsimp only); (try simp only [d6, d9])
      go_simp
      go_at_call 64
      (with_reducible refine (g_form _ b7 A7 n7 c7 ((((q).num) * (((q').den : Int))) + (((q').num) * (((q).den : Int)))) ((((k)) + ((k'))) + (((k')) + ((k))) + 1) ?_ b8 A8 n8 c8 ((((q).den : Int)) * (((q').den : Int))) (((k)) + ((k'))) ?_ (q + q') (k + k' + 1) ?_ ?_ ?_ ?_).mono ?_); (exact h7.iz); (exact h8.iz); (exact Int.mul_ne_zero (den_ne _) (den_ne _)); (exact (add_q _ _).symm); (exact Sz_add HS.out HS'.out); (omega); rintro e wr ⟨b9, A9, n9, c9, A'9, n'9, c'9, rfl, h9, hbr⟩
      have hz := hK.out _ _ ⟨b9, A9, n9, c9, A'9, n'9, c'9, rfl, h9⟩ hbr
      simp only [d6, d9] at hz
      exact hz⟩
  · exact .inr (.inr (.inr ⟨⟨w.heap.size + 1 + 1, 11, 0, 24, #[.bool false, .slice none 0 0, .slice none 0 0], CQ (q + q') (k + k' + 1)⟩, by simp, rfl, by simp, by simp, (show KT 24 = false by decide), fun _ _ => True.intro, fun xf wq hblk hd => by
      obtain ⟨b9, A9, n9, c9, A'9, n'9, c'9, d10, h9⟩ : VQ (q + q') (k + k' + 1) (xf 10) wq := hd ⟨10, .data⟩ (by simp) rfl
      dsimp only at hblk
      refine ⟨[.bool b9, .slice A9 n9 c9, .slice A'9 n'9 c'9], fun w' hk => ⟨b9, A9, n9, c9, A'9, n'9, c'9, rfl, h9.keep hk⟩, fun K hK => ?_⟩
      have hc0 : wq.cell? ⟨w.heap.size + 1 + 1, 0, none⟩ = some (.bool false) := hblk.cell 0
      have hc1 : wq.cell? ⟨w.heap.size + 1 + 1, 1, none⟩ = some (.slice none 0 0) := hblk.cell 1
      have hc2 : wq.cell? ⟨w.heap.size + 1 + 1, 2, none⟩ = some (.slice none 0 0) := hblk.cell 2
      have hf0 : wq.frozen? ⟨w.heap.size + 1 + 1, 0, none⟩ = false := hblk.frozen 0
      have hf1 : wq.frozen? ⟨w.heap.size + 1 + 1, 1, none⟩ = false := hblk.frozen 1
      have hf2 : wq.frozen? ⟨w.heap.size + 1 + 1, 2, none⟩ = false := hblk.frozen 2
      (try dsimp only)
      simp only [d10]
      go_simp
      have hz := hK.out undef
      simp only [d10] at hz
      exact hz⟩))
  clear cx2aa cx2ab lx2aa lx2ab lx2ac lx2ad cx2ba cx2bb lx2ba lx2bb lx2bc lx2bd cx3aa cx3ab lx3aa lx3ab lx3ac lx3ad cx3ba cx3bb lx3ba lx3bb lx3bc lx3bd
  intro y4 w4 kq4 hbl4 lw4 how hrr hfl hds
  replace h := h.keep kq4
  replace h' := h'.keep kq4
  replace h1 := h1.keep kq4
  replace h'1 := h'1.keep kq4
  replace h2 := h2.keep kq4
  replace h'2 := h'2.keep kq4
  obtain ⟨_, z4_0, ez, _⟩ := how _ (List.Mem.head _)
  obtain rfl := ez (by simp)
  dsimp only at z4_0
  obtain ⟨_, z4_1, ez, _⟩ := how _ (List.Mem.tail _ (List.Mem.head _))
  obtain rfl := ez (by simp)
  dsimp only at z4_1
  obtain ⟨_, z4_2, _, ez⟩ := how _ (List.Mem.tail _ (List.Mem.tail _ (List.Mem.head _)))
  obtain ⟨b9, A9, n9, c9, A'9, n'9, c'9, rfl, h9⟩ := ez (by simp)
  dsimp only at z4_2
  obtain ⟨_, z4_3, ez, _⟩ := how _ (List.Mem.tail _ (List.Mem.tail _ (List.Mem.tail _ (List.Mem.head _))))
  obtain rfl := ez (by simp)
  dsimp only at z4_3
  obtain ⟨_, z4_4, ez, _⟩ := how _ (List.Mem.tail _ (List.Mem.tail _ (List.Mem.tail _ (List.Mem.tail _ (List.Mem.head _)))))
  obtain rfl := ez (by simp)
  dsimp only at z4_4
  obtain ⟨_, z4_5, ez, _⟩ := how _ (List.Mem.tail _ (List.Mem.tail _ (List.Mem.tail _ (List.Mem.tail _ (List.Mem.tail _ (List.Mem.head _))))))
  obtain rfl := ez (by simp)
  dsimp only at z4_5
  obtain ⟨_, z4_6, ez, _⟩ := how _ (List.Mem.tail _ (List.Mem.tail _ (List.Mem.tail _ (List.Mem.tail _ (List.Mem.tail _ (List.Mem.tail _ (List.Mem.head _)))))))
  obtain rfl := ez (by simp)
  dsimp only at z4_6
  (try dsimp only)
  clear hrr hfl how hds 
  clear x1a x1b x1c x2a x2b x3a x3b
  have bw4 := bw3.trans hbl4
  clear bw3
  have cz4_2_0 : w4.cell? ⟨w.heap.size + 1 + 1, 0, none⟩ = some (.bool b9) := z4_2.cell 0
  have cz4_2_1 : w4.cell? ⟨w.heap.size + 1 + 1, 1, none⟩ = some (.slice A9 n9 c9) := z4_2.cell 1
  have cz4_2_2 : w4.cell? ⟨w.heap.size + 1 + 1, 2, none⟩ = some (.slice A'9 n'9 c'9) := z4_2.cell 2
  obtain ⟨lz4_2_0, lz4_2_1, lz4_2_2, lz4_2_3⟩ := lts2 z4_2.lt
  go_wp2_with fail
  refine bodyPost_ret (v := .agg #[.bool b9, .slice A9 n9 c9, .slice A'9 n'9 c'9]) (by simp [results, Tryz.results37, go_sem, *] <;> first | rfl | exact ⟨rfl, rfl⟩) rfl ?_
  exact ⟨b9, A9, n9, c9, A'9, n'9, c'9, rfl, h9.keep (Kp.refl w4), bw4⟩
theorem g_sub (w : World) (b : Bool) (A : Option Addr) (n c : Nat) (D : Option Addr) (m e : Nat) (q : Rat) (k : Nat) (h : QZ w b A n c D m e q k) (b' : Bool) (A' : Option Addr) (n' c' : Nat) (D' : Option Addr) (m' e' : Nat) (q' : Rat) (k' : Nat) (h' : QZ w b' A' n' c' D' m' e' q' k') (h0 : 0 < k) (hk : k ≤ 40000000) (h0' : 0 < k') (hk' : k' ≤ 40000000) :
    Calls Tryz.prog 62 #[.agg #[.bool b, .slice A n c, .slice D m e], .agg #[.bool b', .slice A' n' c', .slice D' m' e']] w (RetF w (q - q') (k + k' + 1)) := by
  rw [show q - q' = q + -q' from Rat.sub_eq_add_neg q q']
  go_enter Tryz.func62, Tryz.ntmps62
  go_wp2_with fail
  have p1 := ((((Kp.refl w).alloc (.cells #[.bool b, .slice A n c, .slice D m e] 24)).alloc (.cells #[.bool b', .slice A' n' c', .slice D' m' e'] 24)).alloc (.cells #[.bool false, .slice none 0 0, .slice none 0 0] 24))
  have bw1 := ((((brefl w).alloc (by first | omega | (simp <;> omega)) (.cells #[.bool b, .slice A n c, .slice D m e] 24)).alloc (by first | omega | (simp <;> omega)) (.cells #[.bool b', .slice A' n' c', .slice D' m' e'] 24)).alloc (by first | omega | (simp <;> omega)) (.cells #[.bool false, .slice none 0 0, .slice none 0 0] 24))
  have x1a : Blk (((w.alloc (.cells #[.bool b, .slice A n c, .slice D m e] 24)).alloc (.cells #[.bool b', .slice A' n' c', .slice D' m' e'] 24)).alloc (.cells #[.bool false, .slice none 0 0, .slice none 0 0] 24)) w.heap.size 24 #[.bool b, .slice A n c, .slice D m e] := (((blkAt _ _ _ (by simp)).alloc (.cells #[.bool b', .slice A' n' c', .slice D' m' e'] 24)).alloc (.cells #[.bool false, .slice none 0 0, .slice none 0 0] 24))
  have x1b : Blk (((w.alloc (.cells #[.bool b, .slice A n c, .slice D m e] 24)).alloc (.cells #[.bool b', .slice A' n' c', .slice D' m' e'] 24)).alloc (.cells #[.bool false, .slice none 0 0, .slice none 0 0] 24)) (w.heap.size + 1) 24 #[.bool b', .slice A' n' c', .slice D' m' e'] := ((blkAt _ _ _ (by simp)).alloc (.cells #[.bool false, .slice none 0 0, .slice none 0 0] 24))
  have x1c : Blk (((w.alloc (.cells #[.bool b, .slice A n c, .slice D m e] 24)).alloc (.cells #[.bool b', .slice A' n' c', .slice D' m' e'] 24)).alloc (.cells #[.bool false, .slice none 0 0, .slice none 0 0] 24)) (w.heap.size + 1 + 1) 24 #[.bool false, .slice none 0 0, .slice none 0 0] := (blkAt _ _ _ (by simp))
  have lw1 : w.heap.size + 3 ≤ (((w.alloc (.cells #[.bool b, .slice A n c, .slice D m e] 24)).alloc (.cells #[.bool b', .slice A' n' c', .slice D' m' e'] 24)).alloc (.cells #[.bool false, .slice none 0 0, .slice none 0 0] 24)).heap.size := by simp
  generalize hE1 : (((w.alloc (.cells #[.bool b, .slice A n c, .slice D m e] 24)).alloc (.cells #[.bool b', .slice A' n' c', .slice D' m' e'] 24)).alloc (.cells #[.bool false, .slice none 0 0, .slice none 0 0] 24)) = w1 at p1 bw1 lw1 x1a x1b x1c ⊢
  clear hE1
  replace h := h.keep p1
  replace h' := h'.keep p1
  obtain ⟨cx1aa, cx1ab, cx1ac⟩ := x1a.c3
  obtain ⟨lx1aa, lx1ab, lx1ac, lx1ad⟩ := lts0 x1a.lt
  obtain ⟨cx1ba, cx1bb, cx1bc⟩ := x1b.c3
  obtain ⟨lx1ba, lx1bb, lx1bc, lx1bd⟩ := lts1 x1b.lt
  obtain ⟨cx1ca, cx1cb, cx1cc⟩ := x1c.c3
  obtain ⟨fx1ca, fx1cb, fx1cc⟩ := x1c.f3
  obtain ⟨lx1ca, lx1cb, lx1cc, lx1cd⟩ := lts2 x1c.lt
  have nfx1_0_0 : ¬ w.heap.size = w.heap.size + 1 + 1 := by omega
  have nex1_0_0 : ¬ w.heap.size = w.heap.size + 2 := by omega
  have nfx1_1_0 : ¬ w.heap.size + 1 = w.heap.size + 1 + 1 := by omega
  have nex1_1_0 : ¬ w.heap.size = w.heap.size + 1 := by omega
  go_region_held3 (fun w' => SeesX w1.heap.size (w.heap.size + 1 + 1) w1 w') (first | with_reducible exact SeesX.of (Nat.le_refl _) (by assumption) | with_reducible exact SeesX.of (Nat.le_refl _) (brefl _).drew | with_reducible exact (SeesX.set (SeesX.set (SeesX.set (SeesX.of (Nat.le_refl _) (by assumption))))) | with_reducible exact (SeesX.set (SeesX.set (SeesX.of (Nat.le_refl _) (by assumption)))) | with_reducible exact (SeesX.set (SeesX.of (Nat.le_refl _) (by assumption))) | exact SeesX.of (Nat.le_refl _) (below_drewN (brefl _) 1) | exact SeesX.of (Nat.le_refl _) (below_drewN (by assumption) _))
    (first
      | (go_at_call 96; (with_reducible refine (g_neg _ b' A' n' c' D' m' e' (q') (k') ?_ ?_ ?_).mono ?_); (exact h'); (first | omega | decide | assumption); (first | omega | decide | assumption); rintro e w2 ⟨b2, A2, n2, c2, A'2, n'2, c'2, rfl, h2, hb2⟩; replace hb2 := bnext (below_drewN (brefl _) 1) hb2; have q2 : Below w1.heap.size w1 w2 := bnext (brefl w1) hb2; replace h := h.belw hb2; replace h' := h'.belw hb2)
      | (go_at_call 37; (with_reducible refine (g_add _ b A n c D m e (q) (k) ?_ b2 A2 n2 c2 A'2 n'2 c'2 (-(q')) ((k')) ?_ ?_ ?_ ?_ ?_).mono ?_); (exact h); (exact h2.qz); (first | omega | decide | assumption); (first | omega | decide | assumption); (first | omega | decide | assumption); (first | omega | decide | assumption); rintro e w3 ⟨b3, A3, n3, c3, A'3, n'3, c'3, rfl, h3, hb3⟩; have q3 : Below w1.heap.size w1 w3 := bnext q2 hb3; replace h := h.belw hb3; replace h' := h'.belw hb3; replace h2 := h2.belw hb3; have x1c := x1c.b q3; obtain ⟨cx1ca, cx1cb, cx1cc⟩ := x1c.c3; obtain ⟨fx1ca, fx1cb, fx1cc⟩ := x1c.f3))
  have bw3 := bw1.trans (q3.mono bw1.size)
  clear cx1aa cx1ab cx1ac lx1aa lx1ab lx1ac lx1ad cx1ba cx1bb cx1bc lx1ba lx1bb lx1bc lx1bd cx1ca fx1ca cx1cb fx1cb cx1cc fx1cc lx1ca lx1cb lx1cc lx1cd
  replace x1a := x1a.b q3
  replace x1b := x1b.b q3
  have lw3 := q3.size
  obtain ⟨cx1ca, cx1cb, cx1cc⟩ := x1c.c3
  obtain ⟨fx1ca, fx1cb, fx1cc⟩ := x1c.f3
  go_wp2_with fail
  refine bodyPost_ret (v := .agg #[.bool b3, .slice A3 n3 c3, .slice A'3 n'3 c'3]) (by simp [results, Tryz.results62, go_sem, *] <;> first | rfl | exact ⟨rfl, rfl⟩) rfl ?_
  exact ⟨b3, A3, n3, c3, A'3, n'3, c'3, rfl, h3.keep ((((Kp.refl w3).sb (w.heap.size + 1 + 1) 0 x1c.box (by decide) (.bool b3)).sb (w.heap.size + 1 + 1) 1 (x1c.box.set ⟨w.heap.size + 1 + 1, 0, none⟩ (.bool b3)) (by decide) (.slice A3 n3 c3)).sb (w.heap.size + 1 + 1) 2 ((x1c.box.set ⟨w.heap.size + 1 + 1, 0, none⟩ (.bool b3)).set ⟨w.heap.size + 1 + 1, 1, none⟩ (.slice A3 n3 c3)) (by decide) (.slice A'3 n'3 c'3)), (((bw3.sc (w.heap.size + 1 + 1) 0 (by omega) (.bool b3)).sc (w.heap.size + 1 + 1) 1 (by omega) (.slice A3 n3 c3)).sc (w.heap.size + 1 + 1) 2 (by omega) (.slice A'3 n'3 c'3))⟩
theorem g_cmp (w : World) (b : Bool) (A : Option Addr) (n c : Nat) (D : Option Addr) (m e : Nat) (q : Rat) (k : Nat) (h : QZ w b A n c D m e q k) (b' : Bool) (A' : Option Addr) (n' c' : Nat) (D' : Option Addr) (m' e' : Nat) (q' : Rat) (k' : Nat) (h' : QZ w b' A' n' c' D' m' e' q' k') (h0 : 0 < k) (hk : k ≤ 10000000) (h0' : 0 < k') (hk' : k' ≤ 10000000) :
  Calls Tryz.prog 32 #[.agg #[.bool b, .slice A n c, .slice D m e], .agg #[.bool b', .slice A' n' c', .slice D' m' e']] w (RetV w (.int .i64 (q - q').num.sign)) := by
 go_enter Tryz.func32, Tryz.ntmps32
 go_wp2_with fail
 (with_reducible refine (g_sub _ b A n c D m e (q) (k) ?_ b' A' n' c' D' m' e' (q') (k') ?_ ?_ ?_ ?_ ?_).mono ?_); (exact (h.belw (((Below.refl _ _).alloc (Nat.le_refl _) _).alloc (by simp) _))); (exact (h'.belw (((Below.refl _ _).alloc (Nat.le_refl _) _).alloc (by simp) _))); (first | omega | decide | assumption); (first | omega | decide | assumption); (first | omega | decide | assumption); (first | omega | decide | assumption); rintro e w1 ⟨b1, A1, n1, c1, A'1, n'1, c'1, rfl, h1, hb1⟩
 have q1 := (((Below.refl _ _).alloc (Nat.le_refl _) _).alloc (by simp) _).trans (hb1.mono (by simp <;> omega))
 replace h := h.belw q1
 replace h' := h'.belw q1
 have x1a : Blk w1 w.heap.size 24 #[.bool b, .slice A n c, .slice D m e] := ((blkAt _ _ _ (by simp)).alloc _).below hb1 (by simp <;> omega)
 have x1b := (blkAt _ _ _ (g := w.heap.size + 1) (by simp)).below hb1 (by simp)
 have bw1 := (brefl w).trans (q1.mono (brefl w).size)
 have lw1 : w.heap.size + 2 ≤ w1.heap.size := by have := hb1.size; simp at this; omega
 clear q1
 go_wp2_with fail
 (with_reducible refine (g_sign _ b1 A1 n1 c1 A'1 n'1 c'1 ((q) - (q')) ((k) + (k') + 1) ?_ ?_ ?_).mono ?_); (exact h1.qz); (first | omega | decide | assumption); (first | omega | decide | assumption); rintro e w2 ⟨rfl, q2⟩
 replace h := h.belw q2
 replace h' := h'.belw q2
 replace h1 := h1.belw q2
 replace x1a := x1a.b q2
 replace x1b := x1b.b q2
 have bw2 := bw1.trans (q2.mono bw1.size)
 have lw2 := q2.size
 clear q2 bw1
 go_wp2_with fail
 go_ret
 exact retI rfl bw2
theorem g_from (w : World) (b : Bool) (A : Option Addr) (n c : Nat) (z : Int) (k : Nat) (h : IZ w b A n c z k) (b' : Bool) (A' : Option Addr) (n' c' : Nat) (z' : Int) (k' : Nat) (h' : IZ w b' A' n' c' z' k') (q : Rat) (K : Nat) (hd : z' ≠ 0) (hq : Rat.divInt z z' = q) (hs : Sz q K) (hk : k + k' ≤ 300000000) :
  Calls Tryz.prog 78 #[.agg #[.bool b, .slice A n c], .agg #[.bool b', .slice A' n' c']] w (RetFe w (.int .i64 0) q K) := by
 obtain ⟨s, hs1⟩ : ∃ s, z'.sign = s := ⟨_, rfl⟩
 have e0 : ((s : Int) == 0) = false := by simp; rintro rfl; exact hd (Int.sign_eq_zero_iff_zero.1 hs1)
 have HS1 := Lib.hid hs1
 have HD := Lib.hid hd
 have HQ := Lib.hid hq
 have HS := Lib.hid hs
 clear hs1 hd hq hs
 go_enter Tryz.func78, Tryz.ntmps78
 go_wp2_with fail
 (with_reducible refine (r01_sign_e _ b' A' n' c' (z') (k') ?_ s ?_ ?_).mono ?_); (exact (h'.belw ((((Below.refl _ _).alloc (Nat.le_refl _) _).alloc (by simp) _).alloc (by simp <;> omega) _))); (exact HS1.out); (omega); rintro e w1 ⟨rfl, hb1⟩
 have q1 := ((((Below.refl _ _).alloc (Nat.le_refl _) _).alloc (by simp) _).alloc (by simp <;> omega) _).trans (hb1.mono (by simp <;> omega))
 replace h := h.belw q1
 replace h' := h'.belw q1
 have x1a : Blk w1 w.heap.size 77 #[.bool b, .slice A n c] := (((blkAt _ _ _ (by simp)).alloc _).alloc _).below hb1 (by simp <;> omega)
 have x1b := ((blkAt _ _ _ (g := w.heap.size + 1) (by simp)).alloc _).below hb1 (by simp <;> omega)
 have x1c := (blkAt _ _ _ (g := w.heap.size + 1 + 1) (by simp)).below hb1 (by simp)
 have bw1 := (brefl w).trans (q1.mono (brefl w).size)
 have lw1 : w.heap.size + 3 ≤ w1.heap.size := by have := hb1.size; simp at this; omega
 clear q1
 obtain ⟨cx1aa, cx1ab⟩ := x1a.c2
 obtain ⟨lx1aa, lx1ab, lx1ac, lx1ad⟩ := lts0 x1a.lt
 obtain ⟨cx1ba, cx1bb⟩ := x1b.c2
 obtain ⟨lx1ba, lx1bb, lx1bc, lx1bd⟩ := lts1 x1b.lt
 go_wp2_with fail
 (with_reducible refine (g_form _ b A n c (z) (k) ?_ b' A' n' c' (z') (k') ?_ q K ?_ ?_ ?_ ?_).mono ?_); (exact h); (exact h'); (exact HD.out); (exact HQ.out); (exact HS.out); (omega); rintro e w2 ⟨b2, A2, n2, c2, A'2, n'2, c'2, rfl, h2, q2⟩
 clear cx1aa cx1ab lx1aa lx1ab lx1ac lx1ad cx1ba cx1bb lx1ba lx1bb lx1bc lx1bd
 replace h := h.belw q2
 replace h' := h'.belw q2
 replace x1a := x1a.b q2
 replace x1b := x1b.b q2
 replace x1c := x1c.b q2
 have bw2 := bw1.trans (q2.mono bw1.size)
 have lw2 := q2.size
 clear q2 bw1
 obtain ⟨cx1ca, cx1cb, cx1cc⟩ := x1c.c3
 obtain ⟨fx1ca, fx1cb, fx1cc⟩ := x1c.f3
 obtain ⟨lx1ca, lx1cb, lx1cc, lx1cd⟩ := lts2 x1c.lt
 go_wp2_with fail
 refine bodyPost_ret (v := .tuple #[.agg #[.bool b2, .slice A2 n2 c2, .slice A'2 n'2 c'2], .int .i64 0]) (by simp [results, Tryz.results78, go_sem, *] <;> first | rfl | exact ⟨rfl, rfl⟩) rfl ?_
 exact ⟨b2, A2, n2, c2, A'2, n'2, c'2, rfl, h2.keep ((((Kp.refl w2).sb (w.heap.size + 1 + 1) 0 x1c.box (by decide) (.bool b2)).sb (w.heap.size + 1 + 1) 1 (x1c.box.set ⟨w.heap.size + 1 + 1, 0, none⟩ (.bool b2)) (by decide) (.slice A2 n2 c2)).sb (w.heap.size + 1 + 1) 2 ((x1c.box.set ⟨w.heap.size + 1 + 1, 0, none⟩ (.bool b2)).set ⟨w.heap.size + 1 + 1, 1, none⟩ (.slice A2 n2 c2)) (by decide) (.slice A'2 n'2 c'2)), (((bw2.sc (w.heap.size + 1 + 1) 0 (by omega) (.bool b2)).sc (w.heap.size + 1 + 1) 1 (by omega) (.slice A2 n2 c2)).sc (w.heap.size + 1 + 1) 2 (by omega) (.slice A'2 n'2 c'2))⟩
theorem g_make (w : World) (i j : Int) (hi : -4294967296 < i) (hi2 : i < 4294967296) (hj : -4294967296 < j) (hj2 : j < 4294967296) (q : Rat) (K : Nat) (hd : j ≠ 0) (hq : Rat.divInt i j = q) (hs : Sz q K) :
  Calls Tryz.prog 44 #[.int .i64 i, .int .i64 j] w (RetFe w (.int .i64 0) q K) := by
 have HD := Lib.hid hd
 have HQ := Lib.hid hq
 have HS := Lib.hid hs
 clear hd hq hs
 go_enter Tryz.func44, Tryz.ntmps44
 go_wp2_with fail
 (with_reducible refine (r01_of1 _ (i) ?_ ?_).mono ?_); (first | omega | decide | assumption); (first | omega | decide | assumption); rintro e w1 ⟨b1, A1, n1, c1, rfl, h1, hb1⟩
 have q1 := ((Below.refl _ _).alloc (Nat.le_refl _) _).trans (hb1.mono (by simp))
 have x1a : Blk w1 w.heap.size 24 #[.bool false, .slice none 0 0, .slice none 0 0] := (blkAt _ _ _ (by simp)).below hb1 (by simp)
 have bw1 := (brefl w).trans (q1.mono (brefl w).size)
 have lw1 : w.heap.size + 1 ≤ w1.heap.size := by have := hb1.size; simp at this; omega
 clear q1
 go_wp2_with fail
 (with_reducible refine (r01_of1 _ (j) ?_ ?_).mono ?_); (first | omega | decide | assumption); (first | omega | decide | assumption); rintro e w2 ⟨b2, A2, n2, c2, rfl, h2, q2⟩
 replace h1 := h1.belw q2
 replace x1a := x1a.b q2
 have bw2 := bw1.trans (q2.mono bw1.size)
 have lw2 := q2.size
 clear q2 bw1
 go_wp2_with fail
 (with_reducible refine (g_from _ b1 A1 n1 c1 (i) (1) ?_ b2 A2 n2 c2 (j) (1) ?_ q K ?_ ?_ ?_ ?_).mono ?_); (exact h1.iz); (exact h2.iz); (exact HD.out); (exact HQ.out); (exact HS.out); (decide); rintro e w3 ⟨b3, A3, n3, c3, A'3, n'3, c'3, rfl, h3, q3⟩
 replace h1 := h1.belw q3
 replace h2 := h2.belw q3
 replace x1a := x1a.b q3
 have bw3 := bw2.trans (q3.mono bw2.size)
 have lw3 := q3.size
 clear q3 bw2
 obtain ⟨cx1aa, cx1ab, cx1ac⟩ := x1a.c3
 obtain ⟨fx1aa, fx1ab, fx1ac⟩ := x1a.f3
 obtain ⟨lx1aa, lx1ab, lx1ac, lx1ad⟩ := lts0 x1a.lt
 go_wp2_with fail
 refine bodyPost_ret (v := .tuple #[.agg #[.bool b3, .slice A3 n3 c3, .slice A'3 n'3 c'3], .int .i64 0]) (by simp [results, Tryz.results44, go_sem, *] <;> first | rfl | exact ⟨rfl, rfl⟩) rfl ?_
 exact ⟨b3, A3, n3, c3, A'3, n'3, c'3, rfl, h3.keep ((((Kp.refl w3).sb w.heap.size 0 x1a.box (by decide) (.bool b3)).sb w.heap.size 1 (x1a.box.set ⟨w.heap.size, 0, none⟩ (.bool b3)) (by decide) (.slice A3 n3 c3)).sb w.heap.size 2 ((x1a.box.set ⟨w.heap.size, 0, none⟩ (.bool b3)).set ⟨w.heap.size, 1, none⟩ (.slice A3 n3 c3)) (by decide) (.slice A'3 n'3 c'3)), (((bw3.sc w.heap.size 0 (by omega) (.bool b3)).sc w.heap.size 1 (by omega) (.slice A3 n3 c3)).sc w.heap.size 2 (by omega) (.slice A'3 n'3 c'3))⟩
end Go.Proofs.YtianjkiakkclgaaGreatDoor

/- Walks: the reference: whether two accepted turns are the same. -/
namespace Go.Proofs.YtianjkiakkclgaaGreatDoor
open Go Go.RowKit Bn
attribute [local go_sem ↓] Go.wp_at_zero Go.wp_at_succ
theorem g_cmp_e (w : World) (b : Bool) (A : Option Addr) (n c : Nat) (D : Option Addr) (m e : Nat) (q : Rat) (k : Nat) (h : QZ w b A n c D m e q k) (b' : Bool) (A' : Option Addr) (n' c' : Nat) (D' : Option Addr) (m' e' : Nat) (q' : Rat) (k' : Nat) (h' : QZ w b' A' n' c' D' m' e' q' k') (s : Int) (hs : (q - q').num.sign = s) (h0 : 0 < k) (hk : k ≤ 10000000) (h0' : 0 < k') (hk' : k' ≤ 10000000) : Calls Tryz.prog 32 #[.agg #[.bool b, .slice A n c, .slice D m e], .agg #[.bool b', .slice A' n' c', .slice D' m' e']] w (RetV w (.int .i64 s)) := by
  subst hs; exact g_cmp w b A n c D m e q k h b' A' n' c' D' m' e' q' k' h' h0 hk h0' hk'
theorem sub_sign {q q' : Rat} : (q - q').num.sign = 0 ↔ q = q' := by
  rw [Int.sign_eq_zero_iff_zero, Rat.num_eq_zero]
  constructor
  · intro h; have h2 := Rat.sub_add_cancel (a := q) (b := q'); rw [h, Rat.zero_add] at h2; exact h2.symm
  · intro h; rw [h]; exact Rat.sub_self
theorem g_same_tt0 (w : World) (b : Bool) (A : Option Addr) (n c : Nat) (D : Option Addr) (m e : Nat) (t : TN) (k : Nat) (h : TK w b A n c D m e true t k) (b' : Bool) (A' : Option Addr) (n' c' : Nat) (D' : Option Addr) (m' e' : Nat) (t' : TN) (k' : Nat) (h' : TK w b' A' n' c' D' m' e' true t' k') (h0 : 0 < k) (hk : k ≤ 1000000) (h0' : 0 < k') (hk' : k' ≤ 1000000) (hs : (t.t - t'.t).num.sign = 0) :
  Calls Tryz.prog 14 #[.agg #[.bool b, .slice A n c, .slice D m e, .bool true], .agg #[.bool b', .slice A' n' c', .slice D' m' e', .bool true]] w (RetV w (.bool true)) := by
 have HS := Lib.hid hs
 clear hs
 go_enter Tryz.func14, Tryz.ntmps14
 go_wp2_with fail
 (with_reducible refine (g_cmp_e _ b A n c D m e ((t).t) (k) ?_ b' A' n' c' D' m' e' ((t').t) (k') ?_ (0) ?_ ?_ ?_ ?_ ?_).mono ?_); (exact (h.belw (((Below.refl _ _).alloc (Nat.le_refl _) _).alloc (by simp) _)).qz); (exact (h'.belw (((Below.refl _ _).alloc (Nat.le_refl _) _).alloc (by simp) _)).qz); (exact HS.out); (first | omega | decide | assumption); (first | omega | decide | assumption); (first | omega | decide | assumption); (first | omega | decide | assumption); rintro e w1 ⟨rfl, hb1⟩
 have q1 := (((Below.refl _ _).alloc (Nat.le_refl _) _).alloc (by simp) _).trans (hb1.mono (by simp <;> omega))
 replace h := h.belw q1
 replace h' := h'.belw q1
 have x1a : Blk w1 w.heap.size 28 #[.bool b, .slice A n c, .slice D m e, .bool true] := ((blkAt _ _ _ (by simp)).alloc _).below hb1 (by simp <;> omega)
 have x1b := (blkAt _ _ _ (g := w.heap.size + 1) (by simp)).below hb1 (by simp)
 have bw1 := (brefl w).trans (q1.mono (brefl w).size)
 have lw1 : w.heap.size + 2 ≤ w1.heap.size := by have := hb1.size; simp at this; omega
 clear q1
 go_wp2_with fail
 go_ret
 exact retB rfl bw1
theorem g_same_tts (w : World) (b : Bool) (A : Option Addr) (n c : Nat) (D : Option Addr) (m e : Nat) (t : TN) (k : Nat) (h : TK w b A n c D m e true t k) (b' : Bool) (A' : Option Addr) (n' c' : Nat) (D' : Option Addr) (m' e' : Nat) (t' : TN) (k' : Nat) (h' : TK w b' A' n' c' D' m' e' true t' k') (h0 : 0 < k) (hk : k ≤ 1000000) (h0' : 0 < k') (hk' : k' ≤ 1000000) (s : Int) (hs : (t.t - t'.t).num.sign = s) (hne : s ≠ 0) :
  Calls Tryz.prog 14 #[.agg #[.bool b, .slice A n c, .slice D m e, .bool true], .agg #[.bool b', .slice A' n' c', .slice D' m' e', .bool true]] w (RetV w (.bool false)) := by
 have HS := Lib.hid hs
 have e0 : ((s : Int) == 0) = false := by simp; exact hne
 clear hs hne
 go_enter Tryz.func14, Tryz.ntmps14
 go_wp2_with fail
 (with_reducible refine (g_cmp_e _ b A n c D m e ((t).t) (k) ?_ b' A' n' c' D' m' e' ((t').t) (k') ?_ (s) ?_ ?_ ?_ ?_ ?_).mono ?_); (exact (h.belw (((Below.refl _ _).alloc (Nat.le_refl _) _).alloc (by simp) _)).qz); (exact (h'.belw (((Below.refl _ _).alloc (Nat.le_refl _) _).alloc (by simp) _)).qz); (exact HS.out); (first | omega | decide | assumption); (first | omega | decide | assumption); (first | omega | decide | assumption); (first | omega | decide | assumption); rintro e w1 ⟨rfl, hb1⟩
 have q1 := (((Below.refl _ _).alloc (Nat.le_refl _) _).alloc (by simp) _).trans (hb1.mono (by simp <;> omega))
 replace h := h.belw q1
 replace h' := h'.belw q1
 have x1a : Blk w1 w.heap.size 28 #[.bool b, .slice A n c, .slice D m e, .bool true] := ((blkAt _ _ _ (by simp)).alloc _).below hb1 (by simp <;> omega)
 have x1b := (blkAt _ _ _ (g := w.heap.size + 1) (by simp)).below hb1 (by simp)
 have bw1 := (brefl w).trans (q1.mono (brefl w).size)
 have lw1 : w.heap.size + 2 ≤ w1.heap.size := by have := hb1.size; simp at this; omega
 clear q1
 go_wp2_with fail
 go_ret
 exact retB rfl bw1
theorem g_same_tf (w : World) (b : Bool) (A : Option Addr) (n c : Nat) (D : Option Addr) (m e : Nat) (t : TN) (k : Nat) (h : TK w b A n c D m e true t k) (b' : Bool) (A' : Option Addr) (n' c' : Nat) (D' : Option Addr) (m' e' : Nat) (t' : TN) (k' : Nat) (h' : TK w b' A' n' c' D' m' e' false t' k') (h0 : 0 < k) (hk : k ≤ 1000000) (h0' : 0 < k') (hk' : k' ≤ 1000000)  :
  Calls Tryz.prog 14 #[.agg #[.bool b, .slice A n c, .slice D m e, .bool true], .agg #[.bool b', .slice A' n' c', .slice D' m' e', .bool false]] w (RetV w (.bool false)) := by
 go_enter Tryz.func14, Tryz.ntmps14
 go_wp2_with fail
 go_ret
 exact retB rfl (((brefl w).alloc (by first | omega | (simp <;> omega)) (.cells #[.bool b, .slice A n c, .slice D m e, .bool true] 28)).alloc (by first | omega | (simp <;> omega)) (.cells #[.bool b', .slice A' n' c', .slice D' m' e', .bool false] 28))
theorem g_same_ft (w : World) (b : Bool) (A : Option Addr) (n c : Nat) (D : Option Addr) (m e : Nat) (t : TN) (k : Nat) (h : TK w b A n c D m e false t k) (b' : Bool) (A' : Option Addr) (n' c' : Nat) (D' : Option Addr) (m' e' : Nat) (t' : TN) (k' : Nat) (h' : TK w b' A' n' c' D' m' e' true t' k') (h0 : 0 < k) (hk : k ≤ 1000000) (h0' : 0 < k') (hk' : k' ≤ 1000000)  :
  Calls Tryz.prog 14 #[.agg #[.bool b, .slice A n c, .slice D m e, .bool false], .agg #[.bool b', .slice A' n' c', .slice D' m' e', .bool true]] w (RetV w (.bool false)) := by
 go_enter Tryz.func14, Tryz.ntmps14
 go_wp2_with fail
 go_ret
 exact retB rfl (((brefl w).alloc (by first | omega | (simp <;> omega)) (.cells #[.bool b, .slice A n c, .slice D m e, .bool false] 28)).alloc (by first | omega | (simp <;> omega)) (.cells #[.bool b', .slice A' n' c', .slice D' m' e', .bool true] 28))
theorem g_same_ff0 (w : World) (b : Bool) (A : Option Addr) (n c : Nat) (D : Option Addr) (m e : Nat) (t : TN) (k : Nat) (h : TK w b A n c D m e false t k) (b' : Bool) (A' : Option Addr) (n' c' : Nat) (D' : Option Addr) (m' e' : Nat) (t' : TN) (k' : Nat) (h' : TK w b' A' n' c' D' m' e' false t' k') (h0 : 0 < k) (hk : k ≤ 1000000) (h0' : 0 < k') (hk' : k' ≤ 1000000) (hs : (t.t - t'.t).num.sign = 0) :
  Calls Tryz.prog 14 #[.agg #[.bool b, .slice A n c, .slice D m e, .bool false], .agg #[.bool b', .slice A' n' c', .slice D' m' e', .bool false]] w (RetV w (.bool true)) := by
 have HS := Lib.hid hs
 clear hs
 go_enter Tryz.func14, Tryz.ntmps14
 go_wp2_with fail
 (with_reducible refine (g_cmp_e _ b A n c D m e ((t).t) (k) ?_ b' A' n' c' D' m' e' ((t').t) (k') ?_ (0) ?_ ?_ ?_ ?_ ?_).mono ?_); (exact (h.belw (((Below.refl _ _).alloc (Nat.le_refl _) _).alloc (by simp) _)).qz); (exact (h'.belw (((Below.refl _ _).alloc (Nat.le_refl _) _).alloc (by simp) _)).qz); (exact HS.out); (first | omega | decide | assumption); (first | omega | decide | assumption); (first | omega | decide | assumption); (first | omega | decide | assumption); rintro e w1 ⟨rfl, hb1⟩
 have q1 := (((Below.refl _ _).alloc (Nat.le_refl _) _).alloc (by simp) _).trans (hb1.mono (by simp <;> omega))
 replace h := h.belw q1
 replace h' := h'.belw q1
 have x1a : Blk w1 w.heap.size 28 #[.bool b, .slice A n c, .slice D m e, .bool false] := ((blkAt _ _ _ (by simp)).alloc _).below hb1 (by simp <;> omega)
 have x1b := (blkAt _ _ _ (g := w.heap.size + 1) (by simp)).below hb1 (by simp)
 have bw1 := (brefl w).trans (q1.mono (brefl w).size)
 have lw1 : w.heap.size + 2 ≤ w1.heap.size := by have := hb1.size; simp at this; omega
 clear q1
 go_wp2_with fail
 go_ret
 exact retB rfl bw1
theorem g_same_ffs (w : World) (b : Bool) (A : Option Addr) (n c : Nat) (D : Option Addr) (m e : Nat) (t : TN) (k : Nat) (h : TK w b A n c D m e false t k) (b' : Bool) (A' : Option Addr) (n' c' : Nat) (D' : Option Addr) (m' e' : Nat) (t' : TN) (k' : Nat) (h' : TK w b' A' n' c' D' m' e' false t' k') (h0 : 0 < k) (hk : k ≤ 1000000) (h0' : 0 < k') (hk' : k' ≤ 1000000) (s : Int) (hs : (t.t - t'.t).num.sign = s) (hne : s ≠ 0) :
  Calls Tryz.prog 14 #[.agg #[.bool b, .slice A n c, .slice D m e, .bool false], .agg #[.bool b', .slice A' n' c', .slice D' m' e', .bool false]] w (RetV w (.bool false)) := by
 have HS := Lib.hid hs
 have e0 : ((s : Int) == 0) = false := by simp; exact hne
 clear hs hne
 go_enter Tryz.func14, Tryz.ntmps14
 go_wp2_with fail
 (with_reducible refine (g_cmp_e _ b A n c D m e ((t).t) (k) ?_ b' A' n' c' D' m' e' ((t').t) (k') ?_ (s) ?_ ?_ ?_ ?_ ?_).mono ?_); (exact (h.belw (((Below.refl _ _).alloc (Nat.le_refl _) _).alloc (by simp) _)).qz); (exact (h'.belw (((Below.refl _ _).alloc (Nat.le_refl _) _).alloc (by simp) _)).qz); (exact HS.out); (first | omega | decide | assumption); (first | omega | decide | assumption); (first | omega | decide | assumption); (first | omega | decide | assumption); rintro e w1 ⟨rfl, hb1⟩
 have q1 := (((Below.refl _ _).alloc (Nat.le_refl _) _).alloc (by simp) _).trans (hb1.mono (by simp <;> omega))
 replace h := h.belw q1
 replace h' := h'.belw q1
 have x1a : Blk w1 w.heap.size 28 #[.bool b, .slice A n c, .slice D m e, .bool false] := ((blkAt _ _ _ (by simp)).alloc _).below hb1 (by simp <;> omega)
 have x1b := (blkAt _ _ _ (g := w.heap.size + 1) (by simp)).below hb1 (by simp)
 have bw1 := (brefl w).trans (q1.mono (brefl w).size)
 have lw1 : w.heap.size + 2 ≤ w1.heap.size := by have := hb1.size; simp at this; omega
 clear q1
 go_wp2_with fail
 go_ret
 exact retB rfl bw1
theorem g_same (w : World) (b : Bool) (A : Option Addr) (n c : Nat) (D : Option Addr) (m e : Nat) (x : Bool) (t : TN) (k : Nat) (h : TK w b A n c D m e x t k) (b' : Bool) (A' : Option Addr) (n' c' : Nat) (D' : Option Addr) (m' e' : Nat) (x' : Bool) (t' : TN) (k' : Nat) (h' : TK w b' A' n' c' D' m' e' x' t' k') (h0 : 0 < k) (hk : k ≤ 1000000) (h0' : 0 < k') (hk' : k' ≤ 1000000) (v : Bool) (hv : v = true ↔ t = t') : Calls Tryz.prog 14 #[.agg #[.bool b, .slice A n c, .slice D m e, .bool x], .agg #[.bool b', .slice A' n' c', .slice D' m' e', .bool x']] w (RetV w (.bool v)) := by
  have h1 := h.2.1
  have h2 := h'.2.1
  by_cases he : t = t'
  · have hs : (t.t - t'.t).num.sign = 0 := sub_sign.2 (by rw [he])
    obtain rfl : v = true := hv.2 he
    have hx : x = x' := by rw [h1, h2, he]
    subst hx
    cases x
    · exact g_same_ff0 w b A n c D m e t k h b' A' n' c' D' m' e' t' k' h' h0 hk h0' hk' hs
    · exact g_same_tt0 w b A n c D m e t k h b' A' n' c' D' m' e' t' k' h' h0 hk h0' hk' hs
  · obtain rfl : v = false := by cases v; rfl; exact absurd (hv.1 rfl) he
    by_cases hx : x = x'
    · subst hx
      have hne : (t.t - t'.t).num.sign ≠ 0 := fun z => he (by
        obtain ⟨a, ah⟩ := t
        obtain ⟨a', ah'⟩ := t'
        have := sub_sign.1 z
        simp only at this h1 h2
        rw [this, ← h1, ← h2])
      cases x
      · exact g_same_ffs w b A n c D m e t k h b' A' n' c' D' m' e' t' k' h' h0 hk h0' hk' _ rfl hne
      · exact g_same_tts w b A n c D m e t k h b' A' n' c' D' m' e' t' k' h' h0 hk h0' hk' _ rfl hne
    · cases x <;> cases x'
      · exact absurd rfl hx
      · exact g_same_ft w b A n c D m e t k h b' A' n' c' D' m' e' t' k' h' h0 hk h0' hk'
      · exact g_same_tf w b A n c D m e t k h b' A' n' c' D' m' e' t' k' h' h0 hk h0' hk'
      · exact absurd rfl hx
theorem g_same_e (w : World) (b : Bool) (A : Option Addr) (n c : Nat) (D : Option Addr) (m e : Nat) (x : Bool) (t : TN) (k : Nat) (h : TK w b A n c D m e x t k) (b' : Bool) (A' : Option Addr) (n' c' : Nat) (D' : Option Addr) (m' e' : Nat) (x' : Bool) (t' : TN) (k' : Nat) (h' : TK w b' A' n' c' D' m' e' x' t' k') (v : Bool) (hv : v = true ↔ t = t') (h0 : 0 < k) (hk : k ≤ 1000000) (h0' : 0 < k') (hk' : k' ≤ 1000000) : Calls Tryz.prog 14 #[.agg #[.bool b, .slice A n c, .slice D m e, .bool x], .agg #[.bool b', .slice A' n' c', .slice D' m' e', .bool x']] w (RetV w (.bool v)) := g_same w b A n c D m e x t k h b' A' n' c' D' m' e' x' t' k' h' h0 hk h0' hk' v hv
theorem TK.zero (w : World) : TK w false none 0 0 none 0 0 false tzero 1 := ⟨⟨⟨false, [], []⟩, ⟨rfl, Wd.nil_ w, Wd.nil_ w, Nat.zero_le _, Nat.zero_le _⟩, by rfl, by rfl⟩, rfl, tzero_ok⟩
end Go.Proofs.YtianjkiakkclgaaGreatDoor

/- Walks: the reference: sums of turns. -/
namespace Go.Proofs.YtianjkiakkclgaaGreatDoor
open Go Go.RowKit Bn
attribute [local go_sem ↓] Go.wp_at_zero Go.wp_at_succ
theorem THalf.zero (w : World) : TK w false none 0 0 none 0 0 true thalf 1 := ⟨⟨⟨false, [], []⟩, ⟨rfl, Wd.nil_ w, Wd.nil_ w, Nat.zero_le _, Nat.zero_le _⟩, by rfl, by rfl⟩, rfl, fun _ => rfl⟩
end Go.Proofs.YtianjkiakkclgaaGreatDoor

/- Decimal texts: plain numbers and lists of bytes. -/
namespace Bn
open Go.Lib
theorem dec_push {q d : Nat} (hq : 0 < q) (hd : d < 10) : decDigits (q * 10 + d) = decDigits q ++ [UInt8.ofNat (48 + d)] := by
  rw [decDigits, dif_neg (by omega), show (q * 10 + d) / 10 = q by omega, show (q * 10 + d) % 10 = d by omega]
def padN : Nat → Nat → List UInt8
  | 0, _ => []
  | k + 1, r => padN k (r / 10) ++ [UInt8.ofNat (48 + r % 10)]
theorem dec_pad : ∀ (k : Nat) {q r : Nat}, 0 < q → r < 10 ^ k → decDigits (q * 10 ^ k + r) = decDigits q ++ padN k r
  | 0, q, r, _, hr => by
    have : r = 0 := by simpa using hr
    subst this
    simp [padN]
  | k + 1, q, r, hq, hr => by
    have h1 : r / 10 < 10 ^ k := by rw [Nat.pow_succ] at hr; omega
    have h2 : 0 < q * 10 ^ k := Nat.mul_pos hq (Nat.pow_pos (by omega))
    have e : q * 10 ^ (k + 1) + r = (q * 10 ^ k + r / 10) * 10 + r % 10 := by
      rw [Nat.pow_succ, ← Nat.mul_assoc]
      generalize q * 10 ^ k = P
      omega
    rw [e, dec_push (by omega) (Nat.mod_lt _ (by omega)), dec_pad k hq h1, padN, List.append_assoc]
theorem nDig_le : ∀ {k u : Nat}, 0 < k → u < 10 ^ k → nDigits u ≤ k
  | 0, _, h, _ => absurd h (by omega)
  | k + 1, u, _, hu => by
    by_cases h : u < 10
    · rw [nDigits_small h]; omega
    · rw [nDigits_big h]
      have h0 : k ≠ 0 := by rintro rfl; exact h (by simpa using hu)
      have := nDig_le (k := k) (u := u / 10) (by omega) (by rw [Nat.pow_succ] at hu; omega)
      omega
theorem pad_zero : ∀ k, padN k 0 = repeatL [48] k
  | 0 => rfl
  | k + 1 => by rw [padN, pad_zero k, repeatL_add, repeatL_one]; rfl
theorem pad_eq : ∀ {k r : Nat}, 0 < k → r < 10 ^ k → padN k r = repeatL [48] (k - nDigits r) ++ decDigits r
  | 0, _, h, _ => absurd h (by omega)
  | k + 1, r, _, hr => by
    rw [padN]
    by_cases h : r < 10
    · rw [Nat.div_eq_of_lt h, pad_zero, nDigits_small h, decDigits_one h, Nat.mod_eq_of_lt h]; rfl
    · have h0 : k ≠ 0 := by rintro rfl; exact h (by simpa using hr)
      rw [pad_eq (k := k) (r := r / 10) (by omega) (by rw [Nat.pow_succ] at hr; omega), nDigits_big h, List.append_assoc]
      congr 1
      · congr 1; omega
      · conv => rhs; rw [decDigits, dif_neg h]
def TxtI (N q : Nat) (ps : List (List UInt8)) : Prop := (0 < q → decDigits N = decDigits q ++ ps.flatten) ∧ (q = 0 → decDigits N = ps.flatten) ∧ ps.length ≤ ps.flatten.length
theorem TxtI.start {N : Nat} (h : 0 < N) : TxtI N N [] := ⟨fun _ => by simp, fun e => absurd e (by omega), by simp⟩
theorem TxtI.more {N q : Nat} {ps : List (List UInt8)} (h : TxtI N q ps) (hq : 0 < q / 1000000000) :
    TxtI N (q / 1000000000) ((repeatL [48] (9 - nDigits (q % 1000000000)) ++ decDigits (q % 1000000000)) :: ps) := by
  have hr : q % 1000000000 < 10 ^ 9 := Nat.mod_lt _ (by omega)
  have e : q / 1000000000 * 10 ^ 9 + q % 1000000000 = q := by rw [Nat.mul_comm]; exact Nat.div_add_mod q 1000000000
  refine ⟨fun _ => ?_, fun e => absurd e (by omega), ?_⟩
  · rw [h.1 (by omega), List.flatten_cons, ← List.append_assoc, ← pad_eq (by omega) hr, ← dec_pad 9 hq hr, e]
  · have h3 := h.2.2
    have h4 := nDigits_pos (q % 1000000000)
    simp only [List.length_cons, List.flatten_cons, List.length_append, decDigits_length]
    omega
theorem TxtI.last {N q : Nat} {ps : List (List UInt8)} (h : TxtI N q ps) (h0 : 0 < q) (hq : q / 1000000000 = 0) :
    TxtI N (q / 1000000000) (decDigits (q % 1000000000) :: ps) := by
  have e : q % 1000000000 = q := Nat.mod_eq_of_lt (by omega)
  rw [e]
  refine ⟨fun e => absurd e (by omega), fun _ => ?_, ?_⟩
  · rw [h.1 h0, List.flatten_cons]
  · have h3 := h.2.2
    have h4 := nDigits_pos q
    simp only [List.length_cons, List.flatten_cons, List.length_append, decDigits_length]
    omega
theorem TxtI.len {N q : Nat} {ps : List (List UInt8)} (h : TxtI N q ps) : ps.flatten.length ≤ nDigits N ∧ ps.length ≤ nDigits N := by
  have h3 := h.2.2
  have : ps.flatten.length ≤ nDigits N := by
    rw [← decDigits_length]
    rcases Nat.eq_zero_or_pos q with e | e
    · rw [h.2.1 e]; exact Nat.le_refl _
    · rw [h.1 e, List.length_append]; omega
  exact ⟨this, by omega⟩
theorem nDig_words {N n : Nat} (hn : 0 < n) (h : N < 4294967296 ^ n) : nDigits N ≤ 10 * n := by
  refine nDig_le (by omega) (Nat.lt_of_lt_of_le h ?_)
  rw [Nat.pow_mul]
  exact Nat.pow_le_pow_left (by omega) n
theorem nDig_words' {N n K : Nat} (hK : n ≤ K) (h0 : 0 < K) (h : N < 4294967296 ^ n) : nDigits N ≤ 10 * K :=
  nDig_words h0 (Nat.lt_of_lt_of_le h (Nat.pow_le_pow_right (by omega) hK))
theorem join_flat (ps : List (List UInt8)) : join ps [] = ps.flatten := by
  cases ps with
  | nil => rfl
  | cons x r => rw [join_cons, joinTail]; simp
theorem itoa_abs (z : Int) : itoa z = (if z < 0 then [45] else []) ++ decDigits z.natAbs := by
  unfold itoa
  split
  · rfl
  · rw [show z.toNat = z.natAbs by omega]; rfl
end Bn

/- Digits one by one; texts read as numbers: plain. -/
namespace Bn
open Go.Lib
def dg (V : Nat) : List UInt8 := if V = 0 then [] else decDigits V
theorem dg_step {V : Nat} (h : 0 < V) : dg V = dg (V / 10) ++ [UInt8.ofNat (48 + V % 10)] := by
  unfold dg
  rw [if_neg (by omega)]
  by_cases h1 : V < 10
  · rw [if_pos (by omega), decDigits_one h1, Nat.mod_eq_of_lt h1]; rfl
  · rw [if_neg (by omega)]; conv => lhs; rw [decDigits, dif_neg h1]
def DgI (N q k r : Nat) (s : List UInt8) : Prop := decDigits N = dg (q * 10 ^ (9 - k) + r) ++ s ∧ r < 10 ^ (9 - k)
theorem DgI.start {N Q : Nat} {s : List UInt8} (h : decDigits N = dg Q ++ s) : DgI N (Q / 1000000000) 0 (Q % 1000000000) s := by
  refine ⟨?_, Nat.mod_lt _ (by decide)⟩
  rw [show Q / 1000000000 * 10 ^ (9 - 0) + Q % 1000000000 = Q by rw [Nat.mul_comm]; exact Nat.div_add_mod Q 1000000000]
  exact h
theorem DgI.step {N q k r : Nat} {s : List UInt8} (h : DgI N q k r s) (hk : k < 9) (h0 : 0 < r ∨ 0 < q) : DgI N q (k + 1) (r / 10) ([UInt8.ofNat (48 + r % 10)] ++ s) := by
  obtain ⟨h1, h2⟩ := h
  have e : 10 ^ (9 - k) = 10 ^ (9 - (k + 1)) * 10 := by rw [← Nat.pow_succ]; congr 1; omega
  rw [e] at h1 h2
  have hp : 0 < 10 ^ (9 - (k + 1)) := Nat.pow_pos (by omega)
  unfold DgI
  generalize 10 ^ (9 - (k + 1)) = P at *
  have e2 : q * (P * 10) + r = (q * P + r / 10) * 10 + r % 10 := by rw [← Nat.mul_assoc]; omega
  have h3 : 0 < q * (P * 10) + r := by
    rcases h0 with h | h
    · omega
    · have := Nat.mul_pos h (show 0 < P * 10 by omega); omega
  refine ⟨?_, by omega⟩
  rw [h1, dg_step h3, e2, show ((q * P + r / 10) * 10 + r % 10) / 10 = q * P + r / 10 by omega, show ((q * P + r / 10) * 10 + r % 10) % 10 = r % 10 by omega, List.append_assoc]
theorem dg_len {N Q : Nat} {s : List UInt8} (h : decDigits N = dg Q ++ s) : s.length ≤ nDigits N := by
  rw [← decDigits_length, h, List.length_append]; omega
theorem DgI.len {N q k r : Nat} {s : List UInt8} (h : DgI N q k r s) : s.length ≤ nDigits N := dg_len h.1

/-! ### Texts read -/
def isDg (c : UInt8) : Bool := decide (48 ≤ c.toNat) && decide (c.toNat ≤ 57)
def dval (c : UInt8) : Nat := c.toNat - 48
def decVal (l : List UInt8) : Nat := l.foldl (fun a c => a * 10 + dval c) 0
theorem foldl_dec (l : List UInt8) : ∀ a, l.foldl (fun a c => a * 10 + dval c) a = a * 10 ^ l.length + decVal l := by
  unfold decVal
  induction l with
  | nil => intro a; simp
  | cons x r ih =>
    intro a
    rw [List.foldl_cons, ih, List.foldl_cons, ih (0 * 10 + dval x), List.length_cons, Nat.pow_succ, Nat.add_mul]
    rw [Nat.zero_mul, Nat.zero_add, Nat.mul_assoc, Nat.mul_comm 10, Nat.add_assoc]
theorem decVal_app (a b : List UInt8) : decVal (a ++ b) = decVal a * 10 ^ b.length + decVal b := by
  conv => lhs; unfold decVal
  rw [List.foldl_append, foldl_dec]; rfl
theorem decVal_snoc (a : List UInt8) (c : UInt8) : decVal (a ++ [c]) = decVal a * 10 + dval c := by
  rw [decVal_app]; simp [decVal]
theorem decVal_lt : ∀ {l : List UInt8}, l.all isDg = true → decVal l < 10 ^ l.length := by
  intro l
  induction l with
  | nil => intro _; simp [decVal]
  | cons x r ih =>
    intro h
    rw [List.all_cons, Bool.and_eq_true] at h
    have h1 := ih h.2
    have hx : dval x ≤ 9 := by
      have := h.1; unfold isDg at this; simp at this; unfold dval; omega
    have e : decVal (x :: r) = dval x * 10 ^ r.length + decVal r := by
      have := decVal_app [x] r
      simpa [decVal] using this
    rw [e, List.length_cons, Nat.pow_succ]
    have := Nat.mul_le_mul_right (10 ^ r.length) hx
    omega
def tailS (l : List UInt8) : List UInt8 := match l with | 45 :: r => r | l => l
def headM (l : List UInt8) : Bool := match l with | 45 :: _ => true | _ => false
def okZ (l : List UInt8) : Bool := decide (tailS l ≠ []) && (tailS l).all isDg && !(decide ((tailS l).head? = some 48) && (decide (1 < (tailS l).length) || headM l))
def valZ (l : List UInt8) : Int := if headM l then -(decVal (tailS l) : Int) else decVal (tailS l)
theorem digit_ok {d : Nat} (h : d < 10) : isDg (UInt8.ofNat (48 + d)) = true ∧ dval (UInt8.ofNat (48 + d)) = d := by
  have e : (UInt8.ofNat (48 + d)).toNat = 48 + d := by simp; omega
  unfold isDg dval
  rw [e]
  simp; omega
theorem dec_all (n : Nat) : (decDigits n).all isDg = true ∧ decVal (decDigits n) = n := by
  induction n using Nat.strongRecOn with
  | ind n ih =>
    by_cases h : n < 10
    · rw [decDigits_one h]
      have h1 := digit_ok h
      generalize UInt8.ofNat (48 + n) = c at h1
      refine ⟨by rw [List.all_cons, h1.1]; rfl, ?_⟩
      rw [← List.nil_append [c], decVal_snoc, h1.2]; simp [decVal]
    · have e : decDigits n = decDigits (n / 10) ++ [UInt8.ofNat (48 + n % 10)] := by
        conv => lhs; rw [decDigits, dif_neg h]
      have h1 := ih (n / 10) (by omega)
      have h2 := digit_ok (Nat.mod_lt n (show 0 < 10 by omega))
      generalize UInt8.ofNat (48 + n % 10) = c at h2 e
      refine ⟨by rw [e, List.all_append, h1.1, List.all_cons, h2.1]; rfl, ?_⟩
      rw [e, decVal_snoc, h1.2, h2.2]; omega
theorem dec_head {n : Nat} (h : 0 < n) : ∃ c r, decDigits n = c :: r ∧ c ≠ 48 ∧ c ≠ 45 := by
  induction n using Nat.strongRecOn with
  | ind n ih =>
    by_cases h1 : n < 10
    · rw [decDigits_one h1]
      refine ⟨_, [], rfl, ?_, ?_⟩
      · intro e
        have := congrArg UInt8.toNat e
        simp at this; omega
      · intro e
        have := congrArg UInt8.toNat e
        simp at this; omega
    · have e : decDigits n = decDigits (n / 10) ++ [UInt8.ofNat (48 + n % 10)] := by
        conv => lhs; rw [decDigits, dif_neg h1]
      obtain ⟨c, r, h2, h3⟩ := ih (n / 10) (by omega) (by omega)
      exact ⟨c, r ++ [UInt8.ofNat (48 + n % 10)], by rw [e, h2]; rfl, h3⟩
theorem itoa_ok (z : Int) : okZ (itoa z) = true ∧ valZ (itoa z) = z := by
  rw [itoa_abs]
  rcases Nat.eq_zero_or_pos z.natAbs with h | h
  · have : z = 0 := by omega
    subst this
    rw [if_neg (by decide), show (0 : Int).natAbs = 0 from rfl, decDigits_one (by omega)]
    decide
  · obtain ⟨c, r, e, h1, h2⟩ := dec_head h
    have ha := dec_all z.natAbs
    by_cases hz : z < 0
    · rw [if_pos hz]
      have et : tailS ([45] ++ decDigits z.natAbs) = decDigits z.natAbs := rfl
      have em : headM ([45] ++ decDigits z.natAbs) = true := rfl
      unfold okZ valZ
      rw [et, em, ha.1, ha.2, e]
      simp [h1]; omega
    · rw [if_neg hz, List.nil_append]
      have et : tailS (decDigits z.natAbs) = decDigits z.natAbs := by rw [e]; unfold tailS; split <;> simp_all
      have em : headM (decDigits z.natAbs) = false := by rw [e]; unfold headM; split <;> simp_all
      unfold okZ valZ
      rw [et, em, ha.1, ha.2, e]
      simp [h1]; omega
end Bn

/- Texts of fractions: plain. -/
namespace Bn
open Go.Lib
theorem ofNat_dval {c : UInt8} (h : isDg c = true) : UInt8.ofNat (48 + dval c) = c := by
  unfold isDg at h
  rw [Bool.and_eq_true, decide_eq_true_eq, decide_eq_true_eq] at h
  unfold dval
  rw [show 48 + (c.toNat - 48) = c.toNat by omega]
  simp
theorem dval_lt {c : UInt8} (h : isDg c = true) : dval c < 10 := by
  unfold isDg at h
  rw [Bool.and_eq_true, decide_eq_true_eq, decide_eq_true_eq] at h
  unfold dval; omega
theorem dec_canon : ∀ (k : Nat) {t : List UInt8}, t.length = k → t.all isDg = true → t ≠ [] → (t.head? ≠ some 48 ∨ t.length = 1) → decDigits (decVal t) = t := by
  intro k
  induction k with
  | zero => intro t h1 _ h2 _; exact absurd (List.eq_nil_of_length_eq_zero h1) h2
  | succ k ih =>
    intro t h1 h2 h3 h4
    have e := (List.dropLast_concat_getLast h3).symm
    generalize t.dropLast = u at e
    generalize t.getLast h3 = c at e
    subst e
    rw [List.all_append, Bool.and_eq_true, List.all_cons, Bool.and_eq_true] at h2
    have hc := h2.2.1
    rw [decVal_snoc]
    by_cases hu : u = []
    · subst hu
      rw [show decVal [] = 0 from rfl, Nat.zero_mul, Nat.zero_add, decDigits_one (dval_lt hc), ofNat_dval hc]; rfl
    · have hh : u.head? ≠ some 48 := by
        rcases h4 with h | h
        · intro e; apply h; cases u with
          | nil => exact absurd rfl hu
          | cons x r => exact e
        · rw [List.length_append, List.length_singleton] at h
          have := List.length_pos_iff.2 hu
          omega
      have hi := ih (t := u) (by rw [List.length_append] at h1; simp at h1; exact h1) h2.1 hu (.inl hh)
      have hp : 0 < decVal u := by
        rcases Nat.eq_zero_or_pos (decVal u) with h | h
        · rw [h, decDigits_one (by omega)] at hi
          exfalso; apply hh; rw [← hi]; rfl
        · exact h
      rw [dec_push hp (dval_lt hc), hi, ofNat_dval hc]
theorem dec_pos {t : List UInt8} (h1 : t.all isDg = true) (h2 : t ≠ []) (h3 : t.head? ≠ some 48) : 0 < decVal t := by
  have hi := dec_canon _ rfl h1 h2 (.inl h3)
  rcases Nat.eq_zero_or_pos (decVal t) with h | h
  · rw [h, decDigits_one (by omega)] at hi
    exfalso; apply h3; rw [← hi]; rfl
  · exact h
theorem okZ_canon {l : List UInt8} (h : okZ l = true) : itoa (valZ l) = l := by
  have hp : tailS l ≠ [] ∧ (tailS l).all isDg = true ∧ ¬ ((tailS l).head? = some 48 ∧ (1 < (tailS l).length ∨ headM l = true)) := by
    unfold okZ at h
    simp at h
    refine ⟨h.1.1, by simpa using h.1.2, fun ⟨a, b⟩ => ?_⟩
    rcases h.2 with e | e
    · exact e a
    · rcases b with b | b
      · omega
      · rw [b] at e; exact absurd e.2 (by simp)
  obtain ⟨h0, h1, h2⟩ := hp
  have hl : (headM l = true ∧ l = 45 :: tailS l) ∨ (headM l = false ∧ tailS l = l) := by
    cases l with
    | nil => exact .inr ⟨rfl, rfl⟩
    | cons x r =>
      by_cases h : x = 45
      · subst h; exact .inl ⟨rfl, rfl⟩
      · refine .inr ⟨?_, ?_⟩
        · unfold headM; split
          · rename_i h1; injection h1 with h2; exact absurd h2 h
          · rfl
        · unfold tailS; split
          · rename_i h1; injection h1 with h2; exact absurd h2 h
          · rfl
  have hz : (tailS l).head? ≠ some 48 ∨ (tailS l).length = 1 := by
    by_cases e : (tailS l).head? = some 48
    · right
      have := List.length_pos_iff.2 h0
      have : ¬ 1 < (tailS l).length := fun h => h2 ⟨e, .inl h⟩
      omega
    · exact .inl e
  have hd := dec_canon _ rfl h1 h0 hz
  unfold valZ
  rcases hl with ⟨hm, hl⟩ | ⟨hm, hl⟩
  · have hne : (tailS l).head? ≠ some 48 := fun e => h2 ⟨e, .inr hm⟩
    have hpos := dec_pos h1 h0 hne
    rw [hm, if_pos rfl, itoa_abs, if_pos (by omega), show (-(decVal (tailS l) : Int)).natAbs = decVal (tailS l) by omega, hd]
    exact hl.symm
  · rw [hm, if_neg (by simp), itoa_abs, if_neg (by omega), show ((decVal (tailS l) : Int)).natAbs = decVal (tailS l) by omega, hd]
    exact hl
theorem itoa_inj {x y : Int} (h : itoa x = itoa y) : x = y := by
  rw [← (itoa_ok x).2, h, (itoa_ok y).2]
theorem okZ_mem {l : List UInt8} (h : okZ l = true) {c : UInt8} (hc : c ∈ l) : isDg c = true ∨ c = 45 := by
  have h1 : (tailS l).all isDg = true := by unfold okZ at h; simp at h; simpa using h.1.2
  rw [List.all_eq_true] at h1
  unfold tailS at h1
  split at h1
  · rename_i r
    rcases List.mem_cons.1 hc with e | e
    · exact .inr e
    · exact .inl (h1 c e)
  · exact .inl (h1 c hc)
theorem okZ_slash {l : List UInt8} (h : okZ l = true) : 47 ∉ l ∧ 46 ∉ l := by
  constructor
  · intro hc
    rcases okZ_mem h hc with e | e
    · exact absurd e (by decide)
    · exact absurd e (by decide)
  · intro hc
    rcases okZ_mem h hc with e | e
    · exact absurd e (by decide)
    · exact absurd e (by decide)
theorem cut_uniq {c : UInt8} : ∀ {a b x y : List UInt8}, c ∉ a → c ∉ x → a ++ c :: b = x ++ c :: y → a = x ∧ b = y := by
  intro a
  induction a with
  | nil =>
    intro b x y _ hx h
    cases x with
    | nil => simp at h; exact ⟨rfl, h⟩
    | cons z r => simp at h; exact absurd h.1 (fun e => hx (by rw [e]; simp))
  | cons w r ih =>
    intro b x y ha hx h
    cases x with
    | nil => simp at h; exact absurd h.1 (fun e => ha (by rw [e]; simp))
    | cons z s =>
      simp at h ha hx
      obtain ⟨e1, e2⟩ := ih ha.2 hx.2 h.2
      exact ⟨by rw [h.1, e1], e2⟩
def ratText (q : Rat) : List UInt8 := if q.den = 1 then itoa q.num else itoa q.num ++ 47 :: itoa (q.den : Int)
theorem divInt_cop {n d : Int} (hd : 0 < d) (hg : Nat.gcd n.natAbs d.natAbs = 1) : (Rat.divInt n d).num = n ∧ ((Rat.divInt n d).den : Int) = d := by
  obtain ⟨k, rfl⟩ : ∃ k : Nat, d = k := ⟨d.toNat, by omega⟩
  have hk : k ≠ 0 := by omega
  rw [Rat.divInt_ofNat]
  have : mkRat n k = ⟨n, k, hk, by simpa using hg⟩ := by
    rw [← Rat.normalize_eq_mkRat hk]
    exact Rat.normalize_self ⟨n, k, hk, by simpa using hg⟩
  rw [this]
  exact ⟨rfl, rfl⟩
theorem frac_text {F B : List UInt8} (hF : okZ F = true) (hB : okZ B = true) (hp : 0 < valZ B) :
    (ratText (Rat.divInt (valZ F) (valZ B)) = F ++ 47 :: B) ↔ (valZ B ≠ 1 ∧ Nat.gcd (valZ F).natAbs (valZ B).natAbs = 1) := by
  constructor
  · intro h
    unfold ratText at h
    split at h
    · exfalso
      have h1 := (okZ_slash (itoa_ok (Rat.divInt (valZ F) (valZ B)).num).1).1
      rw [h] at h1
      exact h1 (by simp)
    · rename_i hd
      obtain ⟨e1, e2⟩ := cut_uniq (okZ_slash (itoa_ok _).1).1 (okZ_slash hF).1 h
      have e1 := itoa_inj (e1.trans (okZ_canon hF).symm)
      have e2 := itoa_inj (e2.trans (okZ_canon hB).symm)
      have hr := (Rat.divInt (valZ F) (valZ B)).reduced
      generalize Rat.divInt (valZ F) (valZ B) = q at *
      refine ⟨by omega, ?_⟩
      rw [← e1, ← e2]
      simpa [Nat.Coprime] using hr
  · rintro ⟨h1, h2⟩
    obtain ⟨e1, e2⟩ := divInt_cop hp h2
    unfold ratText
    rw [if_neg (by omega), e1, e2, okZ_canon hF, okZ_canon hB]
theorem index_at {c : UInt8} : ∀ {a b : List UInt8}, c ∉ a → index (a ++ c :: b) [c] = (a.length : Int) := by
  intro a
  induction a with
  | nil => intro b _; rw [List.nil_append, index, if_pos (by simp [List.isPrefixOf])]; rfl
  | cons x r ih =>
    intro b h
    simp at h
    have hp : List.isPrefixOf [c] (x :: (r ++ c :: b)) = false := by simp [List.isPrefixOf]; exact h.1
    rw [List.cons_append, index, hp, ih (b := b) h.2]
    have : ((r.length : Int) == -1) = false := by rw [beq_eq_false_iff_ne]; omega
    simp [this]
theorem index_no {c : UInt8} : ∀ {a : List UInt8}, c ∉ a → index a [c] = -1 := by
  intro a
  induction a with
  | nil => intro _; rfl
  | cons x r ih =>
    intro h
    simp at h
    have hp : List.isPrefixOf [c] (x :: r) = false := by simp [List.isPrefixOf]; exact h.1
    rw [index, hp, ih h.2]
    rfl
theorem cut_at {c : UInt8} {a b : List UInt8} (h : c ∉ a) : cut (a ++ c :: b) [c] = (a, b, true) := by
  unfold cut
  rw [index_at h, if_pos (by omega)]
  simp
theorem cut_no {c : UInt8} {a : List UInt8} (h : c ∉ a) : cut a [c] = (a, [], false) := by
  unfold cut
  rw [index_no h, if_neg (by omega)]
theorem split_at (c : UInt8) : ∀ (s : List UInt8), c ∉ s ∨ ∃ a b, s = a ++ c :: b ∧ c ∉ a := by
  intro s
  induction s with
  | nil => exact .inl (by simp)
  | cons x r ih =>
    by_cases h : x = c
    · subst h; exact .inr ⟨[], r, rfl, by simp⟩
    · rcases ih with e | ⟨a, b, e1, e2⟩
      · exact .inl (by simp; exact ⟨fun h2 => h h2.symm, e⟩)
      · exact .inr ⟨x :: a, b, by rw [e1]; rfl, by simp; exact ⟨fun h2 => h h2.symm, e2⟩⟩
end Bn

/- Walks: integer.Text. -/
namespace Go.Proofs.YtianjkiakkclgaaGreatDoor
open Go Go.RowKit Bn

def Tab (w : World) : Prop := Lib.TabIs Tryz.prog w "internal/strconv.uint64pow10" .u64 Lib.pow10Tab
theorem Tab.belw {w w' : World} (h : Tab w) (hb : Below w.heap.size w w') : Tab w' := Lib.tabBelow_of_tabIs h w' hb
abbrev strV (l : List UInt8) : Value := .string ⟨l.toArray⟩
def strs (ps : List (List UInt8)) : List Value := ps.map strV
theorem strs_len (ps : List (List UInt8)) : (strs ps).length = ps.length := by simp [strs]
theorem strs_one (ps : List (List UInt8)) : ∀ u ∈ strs ps, u.oneCell' = true := by
  intro u hu
  simp only [strs, List.mem_map] at hu
  obtain ⟨x, _, rfl⟩ := hu
  rfl
theorem info_str : (Tryz.prog.info? 9).map (fun i => (i.zero, i.size, i.bytes)) = some (some (.string ⟨#[]⟩), 1, 16) := by kernel_rfl
theorem below_grow (w : World) (k : Nat) (os : Array Obj) : Below w.heap.size w (Sort.grow (w.drewN k) os) :=
  ⟨rfl, rfl, rfl, by simp [Sort.grow], fun j hj => by simp [Sort.grow, Array.getElem?_append_left hj]⟩
theorem itoa_v (w : World) (n : Int) (h0 : -9223372036854775808 ≤ n) (h1 : n ≤ 9223372036854775807) (ht : Tab w) :
    Calls Tryz.prog 112 #[.int .i64 n] w (RetV w (strV (Lib.itoa n))) :=
  (Tryz.strconv_Itoa n h0 h1 w ht).mono fun e w' ⟨he, k, os, hw⟩ => ⟨he, by rw [hw]; exact below_grow w k os⟩
def StrL (w : World) (p : Value) (ps : List (List UInt8)) : Prop := (ps = [] ∧ p = .slice none 0 0) ∨ (ps ≠ [] ∧ ∃ g cap, p = .slice (some ⟨g, 0, none⟩) ps.length cap ∧ g < w.heap.size ∧ ps.length ≤ cap ∧ ∀ j, j < ps.length → w.cell? ⟨g, j, none⟩ = (strs ps)[j]?)
theorem StrL.belw {w w' : World} {p : Value} {ps : List (List UInt8)} (h : StrL w p ps) (hb : Below w.heap.size w w') : StrL w' p ps := by
  rcases h with h | ⟨h0, g, cap, h1, h2, h3, h4⟩
  · exact .inl h
  · refine .inr ⟨h0, g, cap, h1, Nat.lt_of_lt_of_le h2 hb.size, h3, fun j hj => ?_⟩
    rw [← h4 j hj]
    simp only [World.cell?, hb.block g h2]
theorem join_v (w : World) (p : Value) (ps : List (List UInt8)) (h : StrL w p ps) (hlen : ps.flatten.length ≤ 140737488355328) (hN : ps.length ≤ 140737488355328) :
    Calls Tryz.prog 114 #[p, .string ⟨#[]⟩] w (RetV w (strV ps.flatten)) := by
  rcases h with ⟨rfl, rfl⟩ | ⟨h0, g, cap, rfl, h2, h3, h4⟩
  · exact (Tryz.strings_Join_none none 0 ⟨#[]⟩ w).mono fun e w' ⟨he, hw⟩ => ⟨he, hw ▸ Below.refl _ _⟩
  · have hm : (ps.map fun l => (⟨l.toArray⟩ : ByteArray)).map (·.data.toList) = ps := by
      rw [List.map_map]; exact (List.map_congr_left (fun a _ => by simp)).trans (List.map_id ps)
    have hl : (ps.map fun l => (⟨l.toArray⟩ : ByteArray)).length = ps.length := by simp
    have hJ : Lib.join ((ps.map fun l => (⟨l.toArray⟩ : ByteArray)).map (·.data.toList)) (⟨#[]⟩ : ByteArray).data.toList = ps.flatten := by rw [hm]; exact join_flat ps
    have := Tryz.strings_Join g 0 cap (ps.map fun l => ⟨l.toArray⟩) ⟨#[]⟩ w (fun j x hx => by
      have hj : j < ps.length := by have := (List.getElem?_eq_some_iff.1 hx).1; rw [hl] at this; exact this
      rw [Nat.zero_add, h4 j hj]
      rw [List.getElem?_map] at hx
      unfold strs
      rw [List.getElem?_map]
      cases hp : ps[j]? with
      | none => rw [hp] at hx; simp at hx
      | some y => rw [hp] at hx; simp at hx; subst hx; rfl) h2 (by rw [hl]; exact hN) (by rw [hl]; exact h3) (by rw [hJ]; exact hlen)
    rw [hJ, hl] at this
    exact this
theorem cat_v (a b : List UInt8) : ((⟨a.toArray⟩ : ByteArray) ++ ⟨b.toArray⟩) = ⟨(a ++ b).toArray⟩ := by
  apply ByteArray.ext
  simp [ByteArray.data_append]
theorem itoa_n (w : World) (z : Int) (r : Nat) (d : List UInt8) (hz : z = r) (hr : r < 1000000000) (hd : Lib.decDigits r = d) (ht : Tab w) :
    Calls Tryz.prog 112 #[.int .i64 z] w (RetV w (strV d)) := by
  subst hz hd
  rw [← Lib.itoa_nonneg]
  exact itoa_v w r (by omega) (by omega) ht
theorem repeat_v (w : World) (z : Int) (j : Nat) (d : List UInt8) (hz : z = j) (hj : j < 1000000) (hd : Lib.repeatL [48] j = d) :
    Calls Tryz.prog 113 #[.string ⟨#[48]⟩, .int .i64 z] w (RetV w (strV d)) := by
  subst hz hd
  exact Tryz.strings_Repeat ⟨#[48]⟩ j w (by omega) (by show 1 * j ≤ _; omega)
theorem short_q (w : World) (A : Option Addr) (n c q r q' : Nat) (wa : Wd w A n c (digs q)) (hn : n ≤ 1099511627776) (hr : q % 1000000000 = r) (hq : q / 1000000000 = q') :
    Calls Tryz.prog 111 #[.slice A n c, .int .u32 1000000000] w fun e w' => ∃ A1 n1 c1, e = .returned (.tuple #[.slice A1 n1 c1, .int .u32 (r : Nat)]) ∧ Wd w' A1 n1 c1 (digs q') ∧ Below w.heap.size w w' := by
  have := short_c w A n c (digs q) wa hn 1000000000 (by omega) (by omega)
  rw [val_digs, hr, hq] at this
  exact this
theorem StrL.one (w : World) (S : List UInt8) : StrL (w.alloc (.cells #[strV S] 9)) (.slice (some ⟨w.heap.size, 0, none⟩) 1 1) [S] := by
  refine .inr ⟨by simp, _, _, rfl, by simp, Nat.le_refl _, fun j hj => ?_⟩
  rw [World.cell?_alloc_new]
  have : j = 0 := by simpa using hj
  subst this
  rfl
theorem StrL.own {w : World} {base g cap : Nat} {S : List UInt8} {ps : List (List UInt8)} (h : w.ownsRow base 9 1 (.slice (some ⟨g, 0, none⟩) (1 + ps.length) cap) (1 + ps.length) ([strV S] ++ strs ps)) (hg : g < w.heap.size) :
    StrL w (.slice (some ⟨g, 0, none⟩) (1 + ps.length) cap) (S :: ps) := by
  refine .inr ⟨by simp, g, cap, by rw [List.length_cons, Nat.add_comm], hg, ?_, fun j hj => ?_⟩
  · rcases h.2 with ⟨e, _⟩ | ⟨g', c', cur, e, _, _, hc, _⟩
    · exact absurd e (by simp)
    · injection e with _ _ e2
      rw [List.length_cons]; omega
  · rw [h.cellAt j (by rw [List.length_cons] at hj; omega)]
    rfl
def TextI (N : Nat) (W0 wr : World) (m p : Value) : Prop := ∃ A1 n1 c1 q ps, m = .slice A1 n1 c1 ∧ n1 ≤ 1099511627000 ∧ Kept (Wd wr A1 n1 c1 (digs q) ∧ TxtI N q ps ∧ StrL wr p ps) ∧ Below W0.heap.size W0 wr
theorem text_C (w : World) (b : Bool) (A : Option Addr) (n c : Nat) (l : List Nat) (wa : Wd w A n c l) (hn : n ≤ 1000000000) (ht : Tab w) :
  Calls Tryz.prog 77 #[.agg #[.bool b, .slice A n c]] w (RetV w (strV (Lib.itoa (WD.z ⟨b, l⟩)))) := by
 have HL := Lib.hid wa.2.1
 have hcm : Canon (WD.m ⟨b, l⟩) := WD.canon_m wa.1
 obtain ⟨i0, hi0, hz0, hz1, hz2⟩ := info_parts info_str
 obtain ⟨M, hM⟩ : ∃ M, WD.m ⟨b, l⟩ = digs M := ⟨_, (digs_val hcm).symm⟩
 have hab : (WD.z ⟨b, l⟩).natAbs = M := by rw [z_nat, hM, val_digs]
 obtain ⟨T, hT⟩ : ∃ T, T = Lib.itoa (WD.z ⟨b, l⟩) := ⟨_, rfl⟩
 rw [itoa_abs, hab] at hT
 rw [itoa_abs, hab, ← hT]
 have HT := Lib.hid hT
 have HTab := Lib.hid ht
 have HM := Lib.hid hM
 have HA := Lib.hid hab
 clear hT ht hM hab hcm
 have b0 : Below w.heap.size w (w.alloc (.cells #[.bool b, .slice A n c] 77)) := (Below.refl _ _).alloc (Nat.le_refl _) _
 have x0 : Blk (w.alloc (.cells #[.bool b, .slice A n c] 77)) w.heap.size 77 #[.bool b, .slice A n c] := blkAt _ _ _ rfl
 by_cases hM0 : M = 0
 ·subst hM0
  have hz : (WD.z ⟨b, l⟩) < 0 → False := by have := HA.out; omega
  have hT0 : T = [48] := by rw [HT.out, if_neg (fun h => hz h)]; exact Lib.decDigits_one (by omega)
  subst hT0
  go_enter Tryz.func77, Tryz.ntmps77
  go_wp2_with (go_at_call 80; (with_reducible refine (mag_c _ b A n c l ?_ ?_).mono ?_); (exact wa.belw b0); (omega); rintro e w1 ⟨A1, n1, c1, rfl, h1, hb1⟩; rw [HM.out, digs_zero] at h1; obtain rfl : n1 = 0 := h1.2.1)
  go_ret
  exact ⟨rfl, b0.trans (hb1.mono b0.size)⟩
 ·have hMp : 0 < M := Nat.pos_of_ne_zero hM0
  have HMP := Lib.hid hMp
  clear hM0 hMp
  go_enter Tryz.func77, Tryz.ntmps77
  go_wp2_with (go_at_call 80; (with_reducible refine (mag_c _ b A n c l ?_ ?_).mono ?_); (exact wa.belw b0); (omega); rintro e w1 ⟨A1, n1, c1, rfl, h1, hb1⟩; have hn1 : n1 ≤ 1000000000 := h1.m_len (by rw [← HL.out]; exact hn); rw [HM.out] at h1; have e1 : ((n1 : Int) == 0) = false := (by have h9 : n1 ≠ 0 := (fun e => by have h8 := h1.2.1; rw [e] at h8; exact absurd (digs_eq_nil.1 (List.eq_nil_of_length_eq_zero h8.symm)) (by have := HMP.out; omega)); simp; exact h9))
  clear e1
  go_loopw [3, 4] (fun mv pv wr => TextI M w1 wr mv pv) (fun mv _ wr => valOf wr mv)
  case atStart => exact ⟨A1, n1, c1, M, [], rfl, by omega, ⟨h1, TxtI.start HMP.out, .inl ⟨rfl, rfl⟩⟩, brefl _⟩
  case round =>
   obtain ⟨A3, n3, c3, q, ps, rfl, hn3, hK, rr⟩ := hrel
   have hm5 : valOf wr (.slice A3 n3 c3) = q := by rw [hK.1.valOf, val_digs]
   by_cases hq0 : q = 0
   ·subst hq0
    have h0 : n3 = 0 := by have := hK.1.2.1; rw [digs_zero] at this; exact this
    subst h0
    have hps : M = M ∧ Lib.decDigits M = ps.flatten := ⟨rfl, hK.2.1.2.1 rfl⟩
    have hln := hK.2.1.len
    have hnd : Lib.nDigits M ≤ 10 * 1000000000 := nDig_words' hn1 (by omega) (by have := h1.vlt (Nat.le_refl _); rw [val_digs] at this; exact this)
    have x1 : Blk w1 w.heap.size 77 #[.bool b, .slice A n c] := x0.below hb1 (by simp)
    have x2 := x1.below rr x1.lt
    have bw := ((b0.trans (hb1.mono b0.size)).trans (rr.mono (by have := hb1.size; have := b0.size; omega)))
    have HX := Lib.hid x2
    have HP := Lib.hid hps.2
    have HA2 := Lib.hid (show (WD.z ⟨b, l⟩) = sgn (WD.s ⟨b, l⟩) M by rw [WD.z_eq, HM.out, val_digs])
    clear hps x1 x2
    cases hs : WD.s ⟨b, l⟩
    ·have HS := Lib.hid hs
     have HT2 := Lib.hid (show T = ps.flatten by rw [HT.out, HP.out, HA2.out, hs, if_neg (by simp [sgn])]; rfl)
     clear hs
     go_wp2_with (first
      | (go_at_call 114; (with_reducible refine (join_v _ _ ps ?_ ?_ ?_).mono ?_); (exact hK.2.2); omega; omega; rintro e w2 ⟨rfl, hb2⟩; have x3 := HX.out.below hb2 HX.out.lt; obtain ⟨c0, c1⟩ := x3.c2)
      | (go_at_call 81; (with_reducible refine (neg_e _ b A n c l false ?_ ?_ HS.out).mono ?_); (exact wa.belw (bw.trans (hb2.mono bw.size))); omega; rintro e w3 ⟨rfl, hb3⟩))
     go_ret
     refine ⟨by rw [HT2.out]; rfl, (bw.trans (hb2.mono bw.size)).trans (hb3.mono (by have := hb2.size; have := bw.size; omega))⟩
    ·have HS := Lib.hid hs
     have HT2 := Lib.hid (show T = 45 :: ps.flatten by rw [HT.out, HP.out, HA2.out, hs, if_pos (by simp [sgn]; have := HMP.out; omega)]; rfl)
     clear hs
     have hsum : (ps.map List.length).sum ≤ Lib.nDigits M := by rw [← List.length_flatten]; exact hln.1
     go_wp2_with (first
      | (go_at_call 114; (with_reducible refine (join_v _ _ ps ?_ ?_ ?_).mono ?_); (exact hK.2.2); omega; omega; rintro e w2 ⟨rfl, hb2⟩; have x3 := HX.out.below hb2 HX.out.lt; obtain ⟨c0, c1⟩ := x3.c2)
      | (go_at_call 81; (with_reducible refine (neg_e _ b A n c l true ?_ ?_ HS.out).mono ?_); (exact wa.belw (bw.trans (hb2.mono bw.size))); omega; rintro e w3 ⟨rfl, hb3⟩))
     go_ret
     refine ⟨?_, (bw.trans (hb2.mono bw.size)).trans (hb3.mono (by have := hb2.size; have := bw.size; omega))⟩
     rw [HT2.out]
     exact congrArg (fun x => Ending.returned (.string x)) (cat_v [45] ps.flatten)
   ·have hqp : 0 < q := Nat.pos_of_ne_zero hq0
    have hn30 : n3 ≠ 0 := fun e => hq0 (digs_eq_nil.1 (List.eq_nil_of_length_eq_zero (by rw [← hK.1.2.1]; exact e)))
    have e1 : decide (0 < n3) = true := by simp; omega
    obtain ⟨r, hr⟩ : ∃ r, q % 1000000000 = r := ⟨_, rfl⟩
    have hr9 : r < 1000000000 := by rw [← hr]; exact Nat.mod_lt _ (by omega)
    obtain ⟨d, hd⟩ : ∃ d, Lib.decDigits r = d := ⟨_, rfl⟩
    obtain ⟨k, hk⟩ : ∃ k, d.length = k := ⟨_, rfl⟩
    have hkn : Lib.nDigits r = k := by rw [← hk, ← hd, Lib.decDigits_length]
    have hk9 : k ≤ 9 := by rw [← hkn]; exact nDig_le (by omega) hr9
    obtain ⟨j, hj⟩ : ∃ j, k + j = 9 := ⟨9 - k, by omega⟩
    obtain ⟨z, hz⟩ : ∃ z, Lib.repeatL [48] j = z := ⟨_, rfl⟩
    have hzl : z.length = j := by rw [← hz, Lib.repeatL_length]; simp
    obtain ⟨q', hq'⟩ : ∃ q', q / 1000000000 = q' := ⟨_, rfl⟩
    have HR := Lib.hid hr
    have HD := Lib.hid hd
    have HZ := Lib.hid hz
    have HQ := Lib.hid hq'
    have HQP := Lib.hid hqp
    have HKN := Lib.hid hkn
    have hlt : q' < q := by rw [← hq']; omega
    have HLT := Lib.hid hlt
    have bw := ((b0.trans (hb1.mono b0.size)).trans (rr.mono (by have := hb1.size; have := b0.size; omega)))
    have hnd : Lib.nDigits M ≤ 10 * 1000000000 := nDig_words' hn1 (by omega) (by have := h1.vlt (Nat.le_refl _); rw [val_digs] at this; exact this)
    have hln := hK.2.1.len
    clear hr hd hz hq' hq0 hqp hn30 hkn hlt
    by_cases h0 : q' = 0
    ·subst h0
     by_cases hp0 : ps = []
     ·subst hp0
      have hu4 : u4 = .slice none 0 0 := by
       rcases hK.2.2 with h | h
       ·exact h.2
       ·exact absurd rfl h.1
      subst hu4
      go_wp2_with (first
       | (go_at_call 111; (with_reducible refine (short_q _ A3 n3 c3 q r 0 ?_ ?_ HR.out HQ.out).mono ?_); (exact hK.1); omega; rintro e w2 ⟨A5, n5, c5, rfl, h5, hb2⟩; obtain rfl : n5 = 0 := (by have h9 := h5.2.1; rw [digs_zero] at h9; exact h9))
       | (go_at_call 112; (with_reducible refine (itoa_n _ _ r d ?_ ?_ HD.out ?_).mono ?_); (first | rfl | omega); omega; (exact HTab.out.belw (bw.trans (hb2.mono bw.size))); rintro e w3 ⟨rfl, hb3⟩)
      )
      have bl : Below wr.heap.size wr w3 := (hb2.mono (Nat.le_refl _)).trans (hb3.mono hb2.size)
      have b5 : Below w2.heap.size w2 w3 := hb3
      go_roundw
      case rel =>
       refine ⟨A5, 0, c5, 0, [d], rfl, ?_, ⟨(h5.belw b5).belw ((Below.refl _ _).alloc (Nat.le_refl _) _), by have := hK.2.1.last HQP.out HQ.out; rw [HQ.out, HR.out, HD.out] at this; exact this, ?_⟩, (rr.trans (bl.mono rr.size)).alloc (Nat.le_trans rr.size bl.size) _⟩
       ·omega
       ·have := StrL.one w3 d
        exact this
      case measure =>
       rw [((h5.belw b5).belw ((Below.refl _ _).alloc (Nat.le_refl _) _)).valOf, hm5, val_digs]; exact HLT.out
     ·have hp1 : 0 < ps.length := List.length_pos_iff.2 hp0
      obtain ⟨g, cap, hu4, hg, hcap, hcells0⟩ : ∃ g cap, u4 = .slice (some ⟨g, 0, none⟩) ps.length cap ∧ g < wr.heap.size ∧ ps.length ≤ cap ∧ ∀ j, j < ps.length → wr.cell? ⟨g, j, none⟩ = (strs ps)[j]? := by
       rcases hK.2.2 with h | h
       ·exact absurd h.1 hp0
       ·exact h.2
      subst hu4
      have hcells : ∀ w', Below wr.heap.size wr w' → ∀ S j u, (strs ps)[j]? = some u → (w'.alloc (.cells #[S] 9)).cell? ((⟨g, 0, none⟩ : Addr).add j) = some u := by
       intro w' hb S j u hu
       have hj : j < ps.length := by have := (List.getElem?_eq_some_iff.1 hu).1; rw [strs_len] at this; exact this
       rw [Lib.add_plain, Nat.zero_add, ← hu, ← hcells0 j hj]
       simp only [World.cell?, Below.heap_alloc _ _ _ (Nat.lt_of_lt_of_le hg hb.size), hb.block g hg]
      go_wp2_with (first
       | (go_at_call 111; (with_reducible refine (short_q _ A3 n3 c3 q r 0 ?_ ?_ HR.out HQ.out).mono ?_); (exact hK.1); omega; rintro e w2 ⟨A5, n5, c5, rfl, h5, hb2⟩; obtain rfl : n5 = 0 := (by have h9 := h5.2.1; rw [digs_zero] at h9; exact h9))
       | (go_at_call 112; (with_reducible refine (itoa_n _ _ r d ?_ ?_ HD.out ?_).mono ?_); (first | rfl | omega); omega; (exact HTab.out.belw (bw.trans (hb2.mono bw.size))); rintro e w3 ⟨rfl, hb3⟩)
       | (at_builtin; refine wpList_append_lies _ rfl _ _ _ rfl w3.heap.size 9 i0 (.string ⟨#[]⟩) 1 16 Tryz.underlying122 hi0 hz0 hz1 hz2 rfl (by omega) _ 1 [strV d] rfl (World.ownsRow_lit w3 #[strV d] 1 (Nat.le_refl _) (by unfold maxLen; omega) rfl) ⟨g, 0, none⟩ ps.length cap (strs ps) rfl (by rw [strs_len, Nat.mul_one]) ?_ (strs_one ps) hp1 (by unfold maxLen; omega) (by omega) (by simp) (w3.heap.size + 1) (by simp) ?_; (exact hcells _ ((hb2.mono (Nat.le_refl _)).trans (hb3.mono hb2.size)) _); intro gx cap2 w5 hown5 hgrow hat hlt5)
      )
      have bl : Below wr.heap.size wr w3 := (hb2.mono (Nat.le_refl _)).trans (hb3.mono hb2.size)
      have b5 : Below w2.heap.size w2 w3 := hb3
      have bg : Below w3.heap.size w3 w5 := ((Below.refl _ _).alloc (Nat.le_refl _) _).grown hgrow (by simp) (own_base (World.ownsRow_lit (e := 9) (size := 1) w3 #[strV d] 1 (Nat.le_refl _) (by unfold maxLen; omega) rfl))
      have bgr : Below w1.heap.size w1 w5 := ((rr.trans (bl.mono rr.size)).alloc (Nat.le_trans rr.size bl.size) _).grown hgrow (by have := rr.size; have := bl.size; simp; omega) (fun k hk => Nat.le_trans (Nat.le_trans rr.size bl.size) ((own_base (World.ownsRow_lit (e := 9) (size := 1) w3 #[strV d] 1 (Nat.le_refl _) (by unfold maxLen; omega) rfl)) k hk))
      go_roundw
      case rel =>
       refine ⟨A5, 0, c5, 0, d :: ps, rfl, ?_, ⟨(h5.belw b5).belw bg, by have := hK.2.1.last HQP.out HQ.out; rw [HQ.out, HR.out, HD.out] at this; exact this, ?_⟩, bgr⟩
       ·omega
       ·refine StrL.own (base := w3.heap.size) ?_ hlt5
        exact hown5
      case measure =>
       rw [((h5.belw b5).belw bg).valOf, hm5, val_digs]; exact HLT.out
    ·by_cases hp0 : ps = []
     ·subst hp0
      have hu4 : u4 = .slice none 0 0 := by
       rcases hK.2.2 with h | h
       ·exact h.2
       ·exact absurd rfl h.1
      subst hu4
      go_wp2_with (first
       | (go_at_call 111; (with_reducible refine (short_q _ A3 n3 c3 q r q' ?_ ?_ HR.out HQ.out).mono ?_); (exact hK.1); omega; rintro e w2 ⟨A5, n5, c5, rfl, h5, hb2⟩; have e5 : decide (0 < n5) = true := (by have : n5 ≠ 0 := (fun e => h0 (digs_eq_nil.1 (List.eq_nil_of_length_eq_zero (by rw [← h5.2.1]; exact e)))); simp; omega))
       | (go_at_call 112; (with_reducible refine (itoa_n _ _ r d ?_ ?_ HD.out ?_).mono ?_); (first | rfl | omega); omega; (exact HTab.out.belw (bw.trans (hb2.mono bw.size))); rintro e w3 ⟨rfl, hb3⟩)
       | (go_at_call 113; (with_reducible refine (repeat_v _ _ j z ?_ ?_ HZ.out).mono ?_); omega; omega; rintro e w4 ⟨rfl, hb4⟩)
      )
      have bl : Below wr.heap.size wr w4 := ((hb2.mono (Nat.le_refl _)).trans (hb3.mono hb2.size)).trans (hb4.mono (Nat.le_trans hb2.size hb3.size))
      have b5 : Below w2.heap.size w2 w4 := hb3.trans (hb4.mono hb3.size)
      go_roundw
      case rel =>
       refine ⟨A5, n5, c5, q', [(z ++ d)], rfl, ?_, ⟨(h5.belw b5).belw ((Below.refl _ _).alloc (Nat.le_refl _) _), by have := hK.2.1.more (by rw [HQ.out]; omega); rw [HQ.out, HR.out, HKN.out, HD.out, show 9 - k = j by omega, HZ.out] at this; exact this, ?_⟩, (rr.trans (bl.mono rr.size)).alloc (Nat.le_trans rr.size bl.size) _⟩
       ·rw [h5.2.1]; exact Nat.le_trans (length_digs_le (Nat.lt_trans (by first | exact HLT.out | (have := HLT.out; omega)) (by have := hK.1.vlt (Nat.le_refl _); rw [val_digs] at this; exact this))) hn3
       ·have := StrL.one w4 (z ++ d)
        rw [show strV (z ++ d) = .string (⟨z.toArray⟩ ++ ⟨d.toArray⟩) by rw [cat_v]] at this
        exact this
      case measure =>
       rw [((h5.belw b5).belw ((Below.refl _ _).alloc (Nat.le_refl _) _)).valOf, hm5, val_digs]; exact HLT.out
     ·have hp1 : 0 < ps.length := List.length_pos_iff.2 hp0
      obtain ⟨g, cap, hu4, hg, hcap, hcells0⟩ : ∃ g cap, u4 = .slice (some ⟨g, 0, none⟩) ps.length cap ∧ g < wr.heap.size ∧ ps.length ≤ cap ∧ ∀ j, j < ps.length → wr.cell? ⟨g, j, none⟩ = (strs ps)[j]? := by
       rcases hK.2.2 with h | h
       ·exact absurd h.1 hp0
       ·exact h.2
      subst hu4
      have hcells : ∀ w', Below wr.heap.size wr w' → ∀ S j u, (strs ps)[j]? = some u → (w'.alloc (.cells #[S] 9)).cell? ((⟨g, 0, none⟩ : Addr).add j) = some u := by
       intro w' hb S j u hu
       have hj : j < ps.length := by have := (List.getElem?_eq_some_iff.1 hu).1; rw [strs_len] at this; exact this
       rw [Lib.add_plain, Nat.zero_add, ← hu, ← hcells0 j hj]
       simp only [World.cell?, Below.heap_alloc _ _ _ (Nat.lt_of_lt_of_le hg hb.size), hb.block g hg]
      go_wp2_with (first
       | (go_at_call 111; (with_reducible refine (short_q _ A3 n3 c3 q r q' ?_ ?_ HR.out HQ.out).mono ?_); (exact hK.1); omega; rintro e w2 ⟨A5, n5, c5, rfl, h5, hb2⟩; have e5 : decide (0 < n5) = true := (by have : n5 ≠ 0 := (fun e => h0 (digs_eq_nil.1 (List.eq_nil_of_length_eq_zero (by rw [← h5.2.1]; exact e)))); simp; omega))
       | (go_at_call 112; (with_reducible refine (itoa_n _ _ r d ?_ ?_ HD.out ?_).mono ?_); (first | rfl | omega); omega; (exact HTab.out.belw (bw.trans (hb2.mono bw.size))); rintro e w3 ⟨rfl, hb3⟩)
       | (go_at_call 113; (with_reducible refine (repeat_v _ _ j z ?_ ?_ HZ.out).mono ?_); omega; omega; rintro e w4 ⟨rfl, hb4⟩)
       | (at_builtin; refine wpList_append_lies _ rfl _ _ _ rfl w4.heap.size 9 i0 (.string ⟨#[]⟩) 1 16 Tryz.underlying122 hi0 hz0 hz1 hz2 rfl (by omega) _ 1 [.string (⟨z.toArray⟩ ++ ⟨d.toArray⟩)] rfl (World.ownsRow_lit w4 #[.string (⟨z.toArray⟩ ++ ⟨d.toArray⟩)] 1 (Nat.le_refl _) (by unfold maxLen; omega) rfl) ⟨g, 0, none⟩ ps.length cap (strs ps) rfl (by rw [strs_len, Nat.mul_one]) ?_ (strs_one ps) hp1 (by unfold maxLen; omega) (by omega) (by simp) (w4.heap.size + 1) (by simp) ?_; (exact hcells _ (((hb2.mono (Nat.le_refl _)).trans (hb3.mono hb2.size)).trans (hb4.mono (Nat.le_trans hb2.size hb3.size))) _); intro gx cap2 w5 hown5 hgrow hat hlt5)
      )
      have bl : Below wr.heap.size wr w4 := ((hb2.mono (Nat.le_refl _)).trans (hb3.mono hb2.size)).trans (hb4.mono (Nat.le_trans hb2.size hb3.size))
      have b5 : Below w2.heap.size w2 w4 := hb3.trans (hb4.mono hb3.size)
      have bg : Below w4.heap.size w4 w5 := ((Below.refl _ _).alloc (Nat.le_refl _) _).grown hgrow (by simp) (own_base (World.ownsRow_lit (e := 9) (size := 1) w4 #[.string (⟨z.toArray⟩ ++ ⟨d.toArray⟩)] 1 (Nat.le_refl _) (by unfold maxLen; omega) rfl))
      have bgr : Below w1.heap.size w1 w5 := ((rr.trans (bl.mono rr.size)).alloc (Nat.le_trans rr.size bl.size) _).grown hgrow (by have := rr.size; have := bl.size; simp; omega) (fun k hk => Nat.le_trans (Nat.le_trans rr.size bl.size) ((own_base (World.ownsRow_lit (e := 9) (size := 1) w4 #[.string (⟨z.toArray⟩ ++ ⟨d.toArray⟩)] 1 (Nat.le_refl _) (by unfold maxLen; omega) rfl)) k hk))
      go_roundw
      case rel =>
       refine ⟨A5, n5, c5, q', (z ++ d) :: ps, rfl, ?_, ⟨(h5.belw b5).belw bg, by have := hK.2.1.more (by rw [HQ.out]; omega); rw [HQ.out, HR.out, HKN.out, HD.out, show 9 - k = j by omega, HZ.out] at this; exact this, ?_⟩, bgr⟩
       ·rw [h5.2.1]; exact Nat.le_trans (length_digs_le (Nat.lt_trans HLT.out (by have := hK.1.vlt (Nat.le_refl _); rw [val_digs] at this; exact this))) hn3
       ·refine StrL.own (base := w4.heap.size) ?_ hlt5
        rw [show strV (z ++ d) = .string (⟨z.toArray⟩ ++ ⟨d.toArray⟩) by rw [cat_v]]
        exact hown5
      case measure =>
       rw [((h5.belw b5).belw bg).valOf, hm5, val_digs]; exact HLT.out
end Go.Proofs.YtianjkiakkclgaaGreatDoor

/- Roots: plain numbers. -/
namespace Bn
theorem pow_sq (k : Nat) : 2 ^ k * 2 ^ k = 2 ^ (2 * k) := by rw [← Nat.pow_add]; congr 1; omega
def RootI (M r i : Nat) : Prop := r * r ≤ M ∧ M < (r + 2 ^ i) * (r + 2 ^ i)
theorem RootI.start {M N : Nat} (h : M < 2 ^ N) : RootI M 0 (N / 2 + 1) := by
  refine ⟨Nat.zero_le _, ?_⟩
  rw [Nat.zero_add, pow_sq]
  exact Nat.lt_of_lt_of_le h (Nat.pow_le_pow_right (by omega) (by omega))
theorem RootI.no {M r i : Nat} (h : RootI M r (i + 1)) (hx : ¬ (r + 2 ^ i) * (r + 2 ^ i) ≤ M) : RootI M r i := ⟨h.1, by omega⟩
theorem RootI.fin {M r : Nat} (h : RootI M r 0) : isq M = r := isq_of h.1 (by have := h.2; simpa using this)
end Bn

/- Numbers of bits: plain numbers. -/
namespace Bn
theorem val_rep (n : Nat) : val (List.replicate n 0) = 0 := by
  induction n with
  | zero => rfl
  | succ n ih => rw [List.replicate_succ, val, ih]
end Bn

/- Walks: integer.Root. -/
namespace Go.Proofs.YtianjkiakkclgaaGreatDoor
open Go Go.RowKit Bn

def RetIe (w : World) (v : Value) (z : Int) (k : Nat) (e : Ending) (w' : World) : Prop := ∃ b A n c, e = .returned (.tuple #[.agg #[.bool b, .slice A n c], v]) ∧ IV w' b A n c z k ∧ Below w.heap.size w w'
end Go.Proofs.YtianjkiakkclgaaGreatDoor

/- Walks: what the integer laws lean on: short, Same; roots and texts as values. -/
namespace Go.Proofs.YtianjkiakkclgaaGreatDoor
open Go Go.RowKit Bn
attribute [local go_sem ↓] Go.wp_at_zero Go.wp_at_succ
def Ws (w : World) (g N : Nat) (ns : Nat → Nat) : Prop := g < w.heap.size ∧ ∀ i, i < N → ∃ b A c, w.cell? ⟨g, i * 2, none⟩ = some (.bool b) ∧ w.cell? ⟨g, i * 2 + 1, none⟩ = some (.slice A (ns i) c)
theorem Ws.belw {w w' : World} {g N : Nat} {ns : Nat → Nat} (h : Ws w g N ns) (hb : Below w.heap.size w w') : Ws w' g N ns := by
  obtain ⟨hg, h⟩ := h
  have hc := (bcell hb).1
  refine ⟨Nat.lt_of_lt_of_le hg hb.size, fun i hi => ?_⟩
  obtain ⟨b, A, c, h1, h2⟩ := h i hi
  exact ⟨b, A, c, (hc _ _ hg).trans h1, (hc _ _ hg).trans h2⟩
end Go.Proofs.YtianjkiakkclgaaGreatDoor

/- Walks: the opening of the integer laws. -/
namespace Go.Proofs.YtianjkiakkclgaaGreatDoor
open Go Go.RowKit Bn
attribute [local go_sem ↓] Go.wp_at_zero Go.wp_at_succ
theorem IZ.short {w : World} {b : Bool} {A : Option Addr} {n c k : Nat} {z : Int} (h : IZ w b A n c z k) (hs : n ≤ 30) : IZ w b A n c z 30 := by
  obtain ⟨l, h1, h2, _⟩ := h
  exact ⟨l, h1, h2, hs⟩
end Go.Proofs.YtianjkiakkclgaaGreatDoor

/- Texts of integers by their values; errors as numbers. -/
namespace Go.Proofs.YtianjkiakkclgaaGreatDoor
open Go Go.RowKit Bn

theorem i_text_l (w : World) (b : Bool) (A : Option Addr) (n c : Nat) (z : Int) (k : Nat) (h : IZ w b A n c z k) (T : List UInt8) (hk : k ≤ 1000000000) (ht : Tab w) (hT : Lib.itoa z = T) : Calls Tryz.prog 77 #[.agg #[.bool b, .slice A n c]] w (RetV w (strV T)) := by
  subst hT
  obtain ⟨l, h1, rfl, h3⟩ := h
  exact text_C w b A n c l h1 (by omega) ht
theorem i_cmp_w (w : World) (b : Bool) (A : Option Addr) (n c : Nat) (z : Int) (k : Nat) (h : IZ w b A n c z k) (b' : Bool) (A' : Option Addr) (n' c' : Nat) (z' : Int) (k' : Nat) (h' : IZ w b' A' n' c' z' k') (v : Int) (hv : cmpI z z' = v) (hk : k + k' ≤ 1000000000) : Calls Tryz.prog 49 #[.agg #[.bool b, .slice A n c], .agg #[.bool b', .slice A' n' c']] w (RetV w (.int .i64 v)) := by
  subst hv; exact i_cmp w b A n c z k h b' A' n' c' z' k' h' hk
end Go.Proofs.YtianjkiakkclgaaGreatDoor

/- Walks: fractions: Root, Grid. -/
namespace Go.Proofs.YtianjkiakkclgaaGreatDoor
open Go Go.RowKit Bn
attribute [local go_sem ↓] Go.wp_at_zero Go.wp_at_succ
theorem IV.resz {w : World} {b : Bool} {A : Option Addr} {n c : Nat} {z : Int} {k K : Nat} (h : IV w b A n c z k) (hs : z.natAbs < 4294967296 ^ K) : IV w b A n c z K := IV.mk_ h.2.1 h.1 hs
theorem QV.resz {w : World} {b : Bool} {A : Option Addr} {n c : Nat} {D : Option Addr} {m e : Nat} {q : Rat} {k K : Nat} (h : QV w b A n c D m e q k) (hs : Sz q K) : QV w b A n c D m e q K := QV.mk_ h.2.1 h.2.2.1 h.1 hs
theorem RetFe.resz {w : World} {v : Value} {q : Rat} {k K : Nat} {e : Ending} {w' : World} (h : RetFe w v q k e w') (hs : Sz q K) : RetFe w v q K e w' := by
  obtain ⟨b, A, n, c, D, m, d, rfl, h, hb⟩ := h
  exact ⟨b, A, n, c, D, m, d, rfl, h.resz hs, hb⟩
theorem i_cmp_v2 (w : World) (b : Bool) (A : Option Addr) (n c : Nat) (z : Int) (k : Nat) (h : IZ w b A n c z k) (b' : Bool) (A' : Option Addr) (n' c' : Nat) (z' : Int) (k' : Nat) (h' : IZ w b' A' n' c' z' k') (v : Int) (hv : cmpI z z' = v) (hk : k + k' ≤ 999999999) : Calls Tryz.prog 49 #[.agg #[.bool b, .slice A n c], .agg #[.bool b', .slice A' n' c']] w (RetV w (.int .i64 v)) := by
  subst hv; exact i_cmp w b A n c z k h b' A' n' c' z' k' h' (by omega)
end Go.Proofs.YtianjkiakkclgaaGreatDoor

/- Texts read as numbers: what the library's functions give on digits. Plain. -/
namespace Bn
open Go.Lib
theorem digitVal_dg {c : UInt8} (h : isDg c = true) : digitVal c = some (dval c) := by
  unfold isDg at h
  rw [Bool.and_eq_true, decide_eq_true_eq, decide_eq_true_eq] at h
  unfold digitVal dval
  rw [if_pos h]
theorem decFrom_dg : ∀ {l : List UInt8}, l.all isDg = true → ∀ acc, decFrom acc l = some (l.foldl (fun a c => a * 10 + dval c) acc) := by
  intro l
  induction l with
  | nil => intro _ acc; rfl
  | cons x r ih =>
    intro h acc
    rw [List.all_cons, Bool.and_eq_true] at h
    rw [decFrom, digitVal_dg h.1, List.foldl_cons]
    exact ih h.2 _
theorem atoi_dec {l : List UInt8} (h : l.all isDg = true) (h0 : l ≠ []) : atoi l = some (decVal l : Int) := by
  cases l with
  | nil => exact absurd rfl h0
  | cons x r =>
    have hx : isDg x = true := by rw [List.all_cons, Bool.and_eq_true] at h; exact h.1
    have h1 : (x == 45) = false := by
      apply Bool.eq_false_iff.2
      intro e
      rw [beq_iff_eq] at e
      subst e
      exact absurd hx (by decide)
    have h2 : (x == 43) = false := by
      apply Bool.eq_false_iff.2
      intro e
      rw [beq_iff_eq] at e
      subst e
      exact absurd hx (by decide)
    unfold atoi
    dsimp only
    rw [h1, h2]
    simp only [Bool.false_eq_true, if_false]
    unfold decNat
    rw [if_neg (by simp), decFrom_dg h]
    rfl
def digs10 : List UInt8 := [48, 49, 50, 51, 52, 53, 54, 55, 56, 57]
theorem contains_dg (c : UInt8) : digs10.contains c = isDg c := by
  have h : ∀ v : Fin 256, digs10.contains (UInt8.ofNat v) = isDg (UInt8.ofNat v) := by decide +kernel
  have := h ⟨c.toNat, c.toNat_lt⟩
  simpa using this
theorem dropWhile_nil {p : UInt8 → Bool} : ∀ {l : List UInt8}, l.dropWhile p = [] ↔ l.all p = true := by
  intro l
  induction l with
  | nil => simp
  | cons x r ih =>
    by_cases h : p x = true
    · rw [List.dropWhile_cons_of_pos h, ih, List.all_cons, h]; simp
    · rw [List.dropWhile_cons_of_neg h]; simp [h]
theorem dropWhile_head {p : UInt8 → Bool} : ∀ {l : List UInt8} {x : UInt8} {r : List UInt8}, l.dropWhile p = x :: r → p x = false := by
  intro l
  induction l with
  | nil => intro x r h; simp at h
  | cons y s ih =>
    intro x r h
    by_cases hy : p y = true
    · rw [List.dropWhile_cons_of_pos hy] at h; exact ih h
    · rw [List.dropWhile_cons_of_neg hy] at h
      injection h with h1 h2
      subst h1
      simpa using hy
theorem trim_dg {l : List UInt8} : trimS l digs10 = [] ↔ l.all isDg = true := by
  have hp : (fun b => digs10.contains b) = isDg := funext contains_dg
  unfold trimS trimLeftS trimRightS
  rw [hp]
  rw [dropWhile_nil, List.all_reverse]
  constructor
  · intro h
    cases hd : l.reverse.dropWhile isDg with
    | nil => have := dropWhile_nil.1 hd; rw [List.all_reverse] at this; exact this
    | cons x r =>
      rw [hd, List.all_cons, Bool.and_eq_true] at h
      rw [dropWhile_head hd] at h
      exact absurd h.1 (by simp)
  · intro h
    rw [dropWhile_nil.2 (by rw [List.all_reverse]; exact h)]
    rfl
theorem hasPrefix_m (l : List UInt8) : hasPrefix l [45] = headM l := by
  unfold hasPrefix headM
  cases l with
  | nil => rfl
  | cons x r =>
    by_cases h : x = 45
    · subst h; rfl
    · have e : (45 == x) = false := by simp; exact fun e => h e.symm
      simp only [List.isPrefixOf, e, Bool.false_and]
      split
      · rename_i h1; injection h1 with h2; exact absurd h2 h
      · rfl
theorem trimPrefix_m (l : List UInt8) : trimPrefix l [45] = tailS l := by
  unfold trimPrefix
  rw [hasPrefix_m]
  unfold headM tailS
  split
  · rename_i r
    rfl
  · rfl
theorem tailS_len (l : List UInt8) : (tailS l).length ≤ l.length := by
  unfold tailS; split <;> simp
theorem len_ten (k : Nat) : 10 ^ k ≤ 4294967296 ^ k := Nat.pow_le_pow_left (by omega) k
theorem decVal_words {l : List UInt8} (h : l.all isDg = true) : decVal l < 4294967296 ^ l.length := Nat.lt_of_lt_of_le (decVal_lt h) (len_ten _)
theorem all_take {l : List UInt8} {p : UInt8 → Bool} (h : l.all p = true) (k : Nat) : (l.take k).all p = true := by
  rw [List.all_eq_true] at h ⊢
  exact fun x hx => h x (List.mem_of_mem_take hx)
theorem all_drop {l : List UInt8} {p : UInt8 → Bool} (h : l.all p = true) (k : Nat) : (l.drop k).all p = true := by
  rw [List.all_eq_true] at h ⊢
  exact fun x hx => h x (List.mem_of_mem_drop hx)
def GrpI (t pre rest : List UInt8) : Prop := t = pre ++ rest ∧ (pre = [] ∨ rest.length % 9 = 0)
theorem GrpI.step {t pre rest : List UInt8} {n : Nat} (h : GrpI t pre rest) (h0 : 0 < rest.length) (hn : (rest.length - 1) % 9 + 1 = n) :
    n ≤ rest.length ∧ n ≤ 9 ∧ 0 < n ∧ GrpI t (pre ++ rest.take n) (rest.drop n) ∧ decVal (pre ++ rest.take n) = decVal pre * 1000000000 + decVal (rest.take n) := by
  have h1 : n ≤ rest.length := by have := Nat.mod_le (rest.length - 1) 9; omega
  refine ⟨h1, by have := Nat.mod_lt (rest.length - 1) (show 0 < 9 by omega); omega, by omega, ⟨?_, ?_⟩, ?_⟩
  · rw [List.append_assoc, List.take_append_drop]; exact h.1
  · right; rw [List.length_drop]; omega
  · rw [decVal_app, List.length_take, Nat.min_eq_left h1]
    rcases h.2 with e | e
    · subst e; simp [decVal]
    · have : n = 9 := by omega
      subst this; rfl
theorem GrpI.start (t : List UInt8) : GrpI t [] t := ⟨rfl, .inl rfl⟩
theorem GrpI.fin {t pre : List UInt8} (h : GrpI t pre []) : pre = t := by have := h.1; rw [List.append_nil] at this; exact this.symm
theorem okZ_parts {l : List UInt8} (h : okZ l = true) : tailS l ≠ [] ∧ (tailS l).all isDg = true ∧ ¬ ((tailS l).head? = some 48 ∧ (1 < (tailS l).length ∨ headM l = true)) := by
  unfold okZ at h
  simp at h
  refine ⟨h.1.1, by simpa using h.1.2, fun ⟨a, b⟩ => ?_⟩
  rcases h.2 with e | e
  · exact e a
  · rcases b with b | b
    · omega
    · rw [b] at e; exact absurd e.2 (by simp)
theorem okZ_not {l : List UInt8} (h : okZ l = false) : tailS l = [] ∨ (tailS l ≠ [] ∧ (tailS l).all isDg = false) ∨ (tailS l ≠ [] ∧ (tailS l).all isDg = true ∧ (tailS l).head? = some 48 ∧ (1 < (tailS l).length ∨ headM l = true)) := by
  by_cases h0 : tailS l = []
  · exact .inl h0
  · right
    cases h1 : (tailS l).all isDg
    · exact .inl ⟨h0, rfl⟩
    · refine .inr ⟨h0, rfl, ?_⟩
      unfold okZ at h
      rw [h1] at h
      simp [h0] at h
      refine ⟨h.1, ?_⟩
      by_cases h2 : 1 < (tailS l).length
      · exact .inl h2
      · exact .inr (h.2 (by omega))
end Bn

/- Texts of fractions: what reading one gives. Plain. -/
namespace Bn
open Go.Lib
def decOk (F B : List UInt8) : Bool := okZ (tailS F) && decide (0 ≤ valZ (tailS F)) && decide (B ≠ []) && B.all isDg
def decN (F B : List UInt8) : Int := valZ (tailS F) * 10 ^ B.length + decVal B
def decQ (F B : List UInt8) : Rat := Rat.divInt (if headM F then -(decN F B) else decN F B) (10 ^ B.length)
def quoOk (F B : List UInt8) : Bool := okZ F && okZ B && decide (0 < valZ B) && decide (valZ B ≠ 1) && decide (Nat.gcd (valZ F).natAbs (valZ B).natAbs = 1)
inductive FracOut (s : List UInt8) (x : Int) (q : Rat) : Prop
  | big (h : 65536 < s.length) (hx : x = 4) (hq : q = 0)
  | dot (F B : List UInt8) (hl : s.length ≤ 65536) (hs : s = F ++ 46 :: B) (hF : 46 ∉ F) (h64 : s.length ≤ 64) (h : decOk F B = true) (hx : x = 0) (hq : q = decQ F B)
  | dotNo (F B : List UInt8) (hl : s.length ≤ 65536) (hs : s = F ++ 46 :: B) (hF : 46 ∉ F) (h : 64 < s.length ∨ decOk F B = false) (hx : x = 2) (hq : q = 0)
  | quo (F B : List UInt8) (hl : s.length ≤ 65536) (hd : 46 ∉ s) (hs : s = F ++ 47 :: B) (hF : 47 ∉ F) (h : quoOk F B = true) (hx : x = 0) (hq : q = Rat.divInt (valZ F) (valZ B))
  | quoNo (F B : List UInt8) (hl : s.length ≤ 65536) (hd : 46 ∉ s) (hs : s = F ++ 47 :: B) (hF : 47 ∉ F) (h : quoOk F B = false) (hx : x = 2) (hq : q = 0)
  | whole (hl : s.length ≤ 65536) (hd : 46 ∉ s) (hs : 47 ∉ s) (h : okZ s = true) (hx : x = 0) (hq : q = ((valZ s : Int) : Rat))
  | wholeNo (hl : s.length ≤ 65536) (hd : 46 ∉ s) (hs : 47 ∉ s) (h : okZ s = false) (hx : x = 2) (hq : q = 0)
theorem fracOut (s : List UInt8) : ∃ x q, FracOut s x q := by
  by_cases h : 65536 < s.length
  · exact ⟨4, 0, .big h rfl rfl⟩
  · have hl : s.length ≤ 65536 := by omega
    rcases split_at 46 s with hd | ⟨F, B, hs, hF⟩
    · rcases split_at 47 s with he | ⟨F, B, hs, hF⟩
      · cases hb : okZ s
        · exact ⟨2, 0, .wholeNo hl hd he hb rfl rfl⟩
        · exact ⟨0, _, .whole hl hd he hb rfl rfl⟩
      · cases hb : quoOk F B
        · exact ⟨2, 0, .quoNo F B hl hd hs hF hb rfl rfl⟩
        · exact ⟨0, _, .quo F B hl hd hs hF hb rfl rfl⟩
    · by_cases h64 : s.length ≤ 64
      · cases hb : decOk F B
        · exact ⟨2, 0, .dotNo F B hl hs hF (.inr hb) rfl rfl⟩
        · exact ⟨0, _, .dot F B hl hs hF h64 hb rfl rfl⟩
      · exact ⟨2, 0, .dotNo F B hl hs hF (.inl (by omega)) rfl rfl⟩
theorem decOk_parts {F B : List UInt8} (h : decOk F B = true) : okZ (tailS F) = true ∧ 0 ≤ valZ (tailS F) ∧ B ≠ [] ∧ B.all isDg = true := by
  unfold decOk at h
  rw [Bool.and_eq_true, Bool.and_eq_true, Bool.and_eq_true, decide_eq_true_eq, decide_eq_true_eq] at h
  exact ⟨h.1.1.1, h.1.1.2, h.1.2, h.2⟩
theorem decOk_not {F B : List UInt8} (h : decOk F B = false) : okZ (tailS F) = false ∨ (okZ (tailS F) = true ∧ valZ (tailS F) < 0) ∨ (okZ (tailS F) = true ∧ 0 ≤ valZ (tailS F) ∧ B = []) ∨ (okZ (tailS F) = true ∧ 0 ≤ valZ (tailS F) ∧ B ≠ [] ∧ B.all isDg = false) := by
  cases h1 : okZ (tailS F)
  · exact .inl rfl
  · right
    by_cases h2 : 0 ≤ valZ (tailS F)
    · right
      by_cases h3 : B = []
      · exact .inl ⟨rfl, h2, h3⟩
      · right
        cases h4 : B.all isDg
        · exact ⟨rfl, h2, h3, rfl⟩
        · exfalso
          unfold decOk at h
          rw [h1, h4] at h
          simp [h2, h3] at h
    · exact .inl ⟨rfl, by omega⟩
theorem quoOk_parts {F B : List UInt8} (h : quoOk F B = true) : okZ F = true ∧ okZ B = true ∧ 0 < valZ B ∧ valZ B ≠ 1 ∧ Nat.gcd (valZ F).natAbs (valZ B).natAbs = 1 := by
  unfold quoOk at h
  rw [Bool.and_eq_true, Bool.and_eq_true, Bool.and_eq_true, Bool.and_eq_true, decide_eq_true_eq, decide_eq_true_eq, decide_eq_true_eq] at h
  exact ⟨h.1.1.1.1, h.1.1.1.2, h.1.1.2, h.1.2, h.2⟩
theorem quoOk_not {F B : List UInt8} (h : quoOk F B = false) : okZ F = false ∨ (okZ F = true ∧ okZ B = false) ∨ (okZ F = true ∧ okZ B = true ∧ valZ B ≤ 0) ∨ (okZ F = true ∧ okZ B = true ∧ 0 < valZ B ∧ valZ B = 1) ∨ (okZ F = true ∧ okZ B = true ∧ 0 < valZ B ∧ valZ B ≠ 1 ∧ Nat.gcd (valZ F).natAbs (valZ B).natAbs ≠ 1) := by
  cases h1 : okZ F
  · exact .inl rfl
  · right
    cases h2 : okZ B
    · exact .inl ⟨rfl, rfl⟩
    · right
      by_cases h3 : valZ B ≤ 0
      · exact .inl ⟨rfl, rfl, h3⟩
      · right
        by_cases h4 : valZ B = 1
        · exact .inl ⟨rfl, rfl, by omega, h4⟩
        · refine .inr ⟨rfl, rfl, by omega, h4, fun h5 => ?_⟩
          unfold quoOk at h
          rw [h1, h2] at h
          simp [h4, h5] at h
          omega
theorem ratText_out (q : Rat) (hl : (ratText q).length ≤ 65536) : FracOut (ratText q) 0 q := by
  by_cases hd : q.den = 1
  · have e : ratText q = itoa q.num := if_pos hd
    rw [e] at hl ⊢
    have ho := itoa_ok q.num
    refine .whole hl (okZ_slash ho.1).2 (okZ_slash ho.1).1 ho.1 rfl ?_
    rw [ho.2]
    exact (Rat.ext (by simp) (by simp [hd]))
  · have e : ratText q = itoa q.num ++ 47 :: itoa (q.den : Int) := if_neg hd
    rw [e] at hl ⊢
    have hn := itoa_ok q.num
    have hm := itoa_ok (q.den : Int)
    have hp : 0 < q.den := q.den_pos
    refine .quo _ _ hl ?_ rfl (okZ_slash hn.1).1 ?_ rfl ?_
    · intro h
      rcases List.mem_append.1 h with h | h
      · exact (okZ_slash hn.1).2 h
      · rcases List.mem_cons.1 h with h | h
        · exact absurd h (by decide)
        · exact (okZ_slash hm.1).2 h
    · unfold quoOk
      rw [hn.1, hm.1, hn.2, hm.2]
      have h1 : Nat.gcd q.num.natAbs q.den = 1 := q.reduced
      simp [h1]
      omega
    · rw [hn.2, hm.2]
      rw [Rat.divInt_ofNat]; exact (Rat.mkRat_self q).symm
end Bn

/- Walks: integer.Parse. -/
namespace Go.Proofs.YtianjkiakkclgaaGreatDoor
open Go Go.RowKit Bn

theorem toList_v (l : List UInt8) : (⟨l.toArray⟩ : ByteArray).toList = l := by rw [Lib.toList_data]
theorem size_v (l : List UInt8) : (⟨l.toArray⟩ : ByteArray).size = l.length := rfl
theorem ext_v (l : List UInt8) (a b : Nat) : (⟨l.toArray⟩ : ByteArray).extract a b = ⟨((l.drop a).take (b - a)).toArray⟩ := by
  apply ByteArray.ext
  rw [ByteArray.data_extract]
  simp
theorem prefix_v (w : World) (l : List UInt8) (m : Bool) (hm : headM l = m) : Calls Tryz.prog 90 #[strV l, .string ⟨#[45]⟩] w (RetV w (.bool m)) := by
  subst hm
  refine (Tryz.strings_HasPrefix ⟨l.toArray⟩ ⟨#[45]⟩ w).mono fun e w' ⟨he, hw⟩ => ⟨?_, hw ▸ brefl _⟩
  rw [he]
  exact congrArg (fun x => Ending.returned (.bool x)) (hasPrefix_m l)
theorem tprefix_v (w : World) (l t : List UInt8) (ht : tailS l = t) : Calls Tryz.prog 91 #[strV l, .string ⟨#[45]⟩] w (RetV w (strV t)) := by
  subst ht
  refine (Tryz.strings_TrimPrefix ⟨l.toArray⟩ ⟨#[45]⟩ w).mono fun e w' ⟨he, hw⟩ => ⟨?_, hw ▸ brefl _⟩
  rw [he]
  exact congrArg (fun x : List UInt8 => Ending.returned (strV x)) (trimPrefix_m l)
theorem trim_v (w : World) (t x : List UInt8) (hn : t.length ≤ 1000000) (hx : Lib.trimS t digs10 = x) : Calls Tryz.prog 92 #[strV t, .string ⟨#[48, 49, 50, 51, 52, 53, 54, 55, 56, 57]⟩] w (RetV w (strV x)) := by
  subst hx
  exact Any.strings_Trim_laid Tryz.lays160 (by kernel_rfl) ⟨t.toArray⟩ ⟨#[48, 49, 50, 51, 52, 53, 54, 55, 56, 57]⟩ w (by show t.length ≤ _; omega) (by decide) (ascii_of_all (by decide))
theorem atoi_v (w : World) (t : List UInt8) (x : Nat) (hn : t.length ≤ 9) (h0 : t ≠ []) (ha : t.all isDg = true) (hx : decVal t = x) : Calls Tryz.prog 93 #[strV t] w (RetV w (.tuple #[.int .i64 (x : Nat), .nilIface])) := by
  subst hx
  refine (Tryz.strconv_Atoi ⟨t.toArray⟩ (decVal t : Nat) (by show t.length ≤ 18; omega) (atoi_dec ha h0) w).mono fun e w' ⟨he, t, hw⟩ => ⟨he, ?_⟩
  rw [hw]
  exact ⟨rfl, rfl, rfl, by rw [Lib.bytesWorld_size]; omega, fun j hj => Lib.bytesWorld_at_old _ _ _ j hj⟩
theorem i_parse_big (w : World) (l : List UInt8) (hl : 65536 < l.length) :
  Calls Tryz.prog 60 #[strV l] w (RetIe w (.iface 57 (.int .i64 4)) 0 0) := by
 have hsz := size_v l
 go_enter Tryz.func60, Tryz.ntmps60
 go_wp2
 refine bodyPost_ret (v := .tuple #[.agg #[.bool false, .slice none 0 0], .iface 57 (.int .i64 4)]) (by simp [results, Tryz.results60, go_sem, *] <;> first | rfl | exact ⟨rfl, rfl⟩) rfl ?_
 exact ⟨_, _, _, _, rfl, IV.zero _ _, ((brefl w).alloc (Nat.le_refl _) _)⟩
theorem i_parse_bad (w : World) (l : List UInt8) (hl : l.length ≤ 65536) (hb : okZ l = false) :
  Calls Tryz.prog 60 #[strV l] w (RetIe w (.iface 57 (.int .i64 2)) 0 0) := by
 have hsz := size_v l
 have htl := tailS_len l
 obtain ⟨m, hm⟩ : ∃ m, headM l = m := ⟨_, rfl⟩
 obtain ⟨t, ht⟩ : ∃ t, tailS l = t := ⟨_, rfl⟩
 have hn := okZ_not hb
 rw [hm, ht] at hn
 rw [ht] at htl
 have HM := Lib.hid (And.intro hm ht)
 have b0 : Below w.heap.size w (w.alloc (.cells #[.bool false, .slice none 0 0] 77)) := (brefl w).alloc (Nat.le_refl _) _
 have x0 : Blk (w.alloc (.cells #[.bool false, .slice none 0 0] 77)) w.heap.size 77 #[.bool false, .slice none 0 0] := blkAt _ _ _ rfl
 clear hb hm ht
 rcases hn with h | ⟨h0, h1⟩ | ⟨h0, h1, h2, h3⟩
 ·subst h
  have htl0 := toList_v []
  go_enter Tryz.func60, Tryz.ntmps60
  go_wp2_with (first
   | (go_at_call 90; (with_reducible refine (prefix_v _ l _ HM.out.1).mono ?_); rintro e w1 ⟨rfl, hb1⟩; have b1 := b0.trans (hb1.mono b0.size); have x1 := x0.below hb1 x0.lt)
   | (go_at_call 91; (with_reducible refine (tprefix_v _ l _ HM.out.2).mono ?_); rintro e w2 ⟨rfl, hb2⟩; have b2 := b1.trans (hb2.mono b1.size); have x2 := x1.below hb2 x1.lt; obtain ⟨c0, c1⟩ := x2.c2; obtain ⟨f0, f1⟩ := x2.f2))
  refine bodyPost_ret (v := .tuple #[.agg #[.bool false, .slice none 0 0], .iface 57 (.int .i64 2)]) (by simp [results, Tryz.results60, go_sem, *] <;> first | rfl | exact ⟨rfl, rfl⟩) rfl ?_
  exact ⟨_, _, _, _, rfl, IV.zero _ _, (b2.setCell (by dsimp only; omega) _).setCell (by dsimp only; omega) _⟩
 ·obtain ⟨c, r, rfl⟩ := List.exists_cons_of_ne_nil h0
  have htl0 := toList_v (c :: r)
  obtain ⟨x, hx⟩ : ∃ x, Lib.trimS (c :: r) digs10 = x := ⟨_, rfl⟩
  have hx0 : x ≠ [] := fun e => by rw [e] at hx; have := trim_dg.1 hx; rw [h1] at this; exact absurd this (by simp)
  obtain ⟨y, ys, rfl⟩ := List.exists_cons_of_ne_nil hx0
  have htl1 := toList_v (y :: ys)
  have HX := Lib.hid hx
  have HTL := Lib.hid (show (c :: r).length ≤ 1000000 by omega)
  clear hx hx0 h0 h1
  go_enter Tryz.func60, Tryz.ntmps60
  go_wp2_with (first
   | (go_at_call 90; (with_reducible refine (prefix_v _ l _ HM.out.1).mono ?_); rintro e w1 ⟨rfl, hb1⟩; have b1 := b0.trans (hb1.mono b0.size); have x1 := x0.below hb1 x0.lt)
   | (go_at_call 91; (with_reducible refine (tprefix_v _ l _ HM.out.2).mono ?_); rintro e w2 ⟨rfl, hb2⟩; have b2 := b1.trans (hb2.mono b1.size); have x2 := x1.below hb2 x1.lt)
   | (go_at_call 92; (with_reducible refine (trim_v _ _ (y :: ys) ?_ HX.out).mono ?_); (exact HTL.out); rintro e w3 ⟨rfl, hb3⟩; have b3 := b2.trans (hb3.mono b2.size); have x3 := x2.below hb3 x2.lt; obtain ⟨c0, c1⟩ := x3.c2; obtain ⟨f0, f1⟩ := x3.f2))
  refine bodyPost_ret (v := .tuple #[.agg #[.bool false, .slice none 0 0], .iface 57 (.int .i64 2)]) (by simp [results, Tryz.results60, go_sem, *] <;> first | rfl | exact ⟨rfl, rfl⟩) rfl ?_
  exact ⟨_, _, _, _, rfl, IV.zero _ _, (b3.setCell (by dsimp only; omega) _).setCell (by dsimp only; omega) _⟩
 ·obtain ⟨c, r, rfl⟩ := List.exists_cons_of_ne_nil h0
  have hc : c = 48 := by simpa using h2
  subst hc
  have htl0 := toList_v (48 :: r)
  have htl1 := toList_v []
  have hsz0 := size_v (48 :: r)
  have HX := Lib.hid (trim_dg.2 h1)
  have HTL := Lib.hid (show (48 :: r : List UInt8).length ≤ 1000000 by omega)
  clear h0 h1 h2
  by_cases hr : r = []
  ·subst hr
   have hm : m = true := by
    rcases h3 with h | h
    ·exact absurd h (by simp)
    ·exact h
   subst hm
   clear h3
   go_enter Tryz.func60, Tryz.ntmps60
   go_wp2_with (first
    | (go_at_call 90; (with_reducible refine (prefix_v _ l _ HM.out.1).mono ?_); rintro e w1 ⟨rfl, hb1⟩; have b1 := b0.trans (hb1.mono b0.size); have x1 := x0.below hb1 x0.lt)
    | (go_at_call 91; (with_reducible refine (tprefix_v _ l _ HM.out.2).mono ?_); rintro e w2 ⟨rfl, hb2⟩; have b2 := b1.trans (hb2.mono b1.size); have x2 := x1.below hb2 x1.lt)
    | (go_at_call 92; (with_reducible refine (trim_v _ _ [] ?_ HX.out).mono ?_); (exact HTL.out); rintro e w3 ⟨rfl, hb3⟩; have b3 := b2.trans (hb3.mono b2.size); have x3 := x2.below hb3 x2.lt; obtain ⟨c0, c1⟩ := x3.c2; obtain ⟨f0, f1⟩ := x3.f2))
   refine bodyPost_ret (v := .tuple #[.agg #[.bool false, .slice none 0 0], .iface 57 (.int .i64 2)]) (by simp [results, Tryz.results60, go_sem, *] <;> first | rfl | exact ⟨rfl, rfl⟩) rfl ?_
   exact ⟨_, _, _, _, rfl, IV.zero _ _, (b3.setCell (by dsimp only; omega) _).setCell (by dsimp only; omega) _⟩
  ·obtain ⟨d, rs, rfl⟩ := List.exists_cons_of_ne_nil hr
   have hlen : 1 < (48 :: d :: rs : List UInt8).length := by simp
   clear h3 hr
   go_enter Tryz.func60, Tryz.ntmps60
   go_wp2_with (first
    | (go_at_call 90; (with_reducible refine (prefix_v _ l _ HM.out.1).mono ?_); rintro e w1 ⟨rfl, hb1⟩; have b1 := b0.trans (hb1.mono b0.size); have x1 := x0.below hb1 x0.lt)
    | (go_at_call 91; (with_reducible refine (tprefix_v _ l _ HM.out.2).mono ?_); rintro e w2 ⟨rfl, hb2⟩; have b2 := b1.trans (hb2.mono b1.size); have x2 := x1.below hb2 x1.lt)
    | (go_at_call 92; (with_reducible refine (trim_v _ _ [] ?_ HX.out).mono ?_); (exact HTL.out); rintro e w3 ⟨rfl, hb3⟩; have b3 := b2.trans (hb3.mono b2.size); have x3 := x2.below hb3 x2.lt; obtain ⟨c0, c1⟩ := x3.c2; obtain ⟨f0, f1⟩ := x3.f2))
   refine bodyPost_ret (v := .tuple #[.agg #[.bool false, .slice none 0 0], .iface 57 (.int .i64 2)]) (by simp [results, Tryz.results60, go_sem, *] <;> first | rfl | exact ⟨rfl, rfl⟩) rfl ?_
   exact ⟨_, _, _, _, rfl, IV.zero _ _, (b3.setCell (by dsimp only; omega) _).setCell (by dsimp only; omega) _⟩
def ParseI (T : List UInt8) (W0 wr : World) (tv mv : Value) : Prop := ∃ pre rest A1 n1 c1, tv = strV rest ∧ mv = .slice A1 n1 c1 ∧ n1 ≤ 65536 ∧ rest.length ≤ 65536 ∧ Kept (GrpI T pre rest ∧ pre.all isDg = true ∧ rest.all isDg = true ∧ Wd wr A1 n1 c1 (digs (decVal pre))) ∧ Below W0.heap.size W0 wr
def strLen : Value → Nat
  | .string s => s.size
  | _ => 0
theorem plus_k (w : World) (A : Option Addr) (n c x : Nat) (wa : Wd w A n c (digs x)) (hn : n ≤ 1099511627776) (A' : Option Addr) (n' c' y : Nat) (wb : Wd w A' n' c' (digs y)) (hn' : n' ≤ 1099511627776) :
    Calls Tryz.prog 86 #[.slice A n c, .slice A' n' c'] w (RetL w (digs (x + y))) := by
  have := plus_c w A n c (digs x) wa hn A' n' c' (digs y) wb hn'
  rw [val_digs, val_digs] at this
  exact this
theorem times_n (w : World) (A : Option Addr) (n c x : Nat) (wa : Wd w A n c (digs x)) (hn : n ≤ 1099511627776) (g : Nat) (z : Int) (y : Nat) (hz : z = y) (hy : y < 4294967296) (hb : Blk w g 100 #[.int .u32 z]) :
    Calls Tryz.prog 83 #[.slice A n c, .slice (some ⟨g, 0, none⟩) 1 1] w (RetL w (digs (x * y))) := by
  subst hz
  have h1 : Wd w (some ⟨g, 0, none⟩) 1 1 [y] := Blk.wdN (l := [y]) hb (by intro x hx; simp at hx; omega) rfl
  have := times_c w A n c (digs x) wa hn (some ⟨g, 0, none⟩) 1 1 [y] h1 (by omega)
  rw [val_digs, show val [y] = y by simp [val]] at this
  exact this
theorem trim_n (w : World) (g : Nat) (z : Int) (y : Nat) (hz : z = y) (hy : y < 4294967296) (hb : Blk w g 100 #[.int .u32 z]) :
    Calls Tryz.prog 94 #[.slice (some ⟨g, 0, none⟩) 1 1] w (RetL w (digs y)) := by
  subst hz
  have h1 : Wd w (some ⟨g, 0, none⟩) 1 1 [y] := Blk.wdN (l := [y]) hb (by intro x hx; simp at hx; omega) rfl
  have := trim_c w (some ⟨g, 0, none⟩) 1 1 [y] h1 (by omega)
  rw [show val [y] = y by simp [val]] at this
  exact this
theorem i_parse_ok (w : World) (l : List UInt8) (hl : l.length ≤ 65536) (hb : okZ l = true) :
    Calls Tryz.prog 60 #[strV l] w (RetIe w .nilIface (valZ l) l.length) := by
  have hsz := size_v l
  have htl2 := tailS_len l
  have htl := Nat.le_trans htl2 hl
  obtain ⟨m, hm⟩ : ∃ m, headM l = m := ⟨_, rfl⟩
  obtain ⟨t, ht⟩ : ∃ t, tailS l = t := ⟨_, rfl⟩
  obtain ⟨h0, h1, h2⟩ := okZ_parts hb
  have hv : valZ l = if m then -(decVal t : Int) else decVal t := by unfold valZ; rw [hm, ht]
  rw [hm, ht] at h2
  rw [ht] at htl htl2 h0 h1
  have HM := Lib.hid (And.intro hm ht)
  have HV := Lib.hid hv
  have b0 : Below w.heap.size w (w.alloc (.cells #[.bool false, .slice none 0 0] 77)) := (brefl w).alloc (Nat.le_refl _) _
  have x0 : Blk (w.alloc (.cells #[.bool false, .slice none 0 0] 77)) w.heap.size 77 #[.bool false, .slice none 0 0] := blkAt _ _ _ rfl
  clear hb hm ht hv
  obtain ⟨c, r, rfl⟩ := List.exists_cons_of_ne_nil h0
  have htl0 := toList_v (c :: r)
  have htl1 := toList_v []
  have hsz0 := size_v (c :: r)
  have HX := Lib.hid (trim_dg.2 h1)
  have HTL := Lib.hid (show (c :: r : List UInt8).length ≤ 1000000 by omega)
  have HALL := Lib.hid h1
  have hcase : c ≠ 48 ∨ (c = 48 ∧ r = [] ∧ m = false) := by
    by_cases hc : c = 48
    · refine .inr ⟨hc, ?_, ?_⟩
      · cases r with
        | nil => rfl
        | cons d rs => exact absurd ⟨by rw [hc]; rfl, .inl (by simp)⟩ h2
      · cases m with
        | false => rfl
        | true => exact absurd ⟨by rw [hc]; rfl, .inr rfl⟩ h2
    · exact .inl hc
  have HLL := Lib.hid htl
  have HSZ := Lib.hid (show (valZ l).natAbs < 4294967296 ^ l.length by
    rw [HV.out]
    refine Nat.lt_of_lt_of_le (show (if m = true then -(decVal (c :: r) : Int) else (decVal (c :: r) : Int)).natAbs < 4294967296 ^ (c :: r).length by
      have := decVal_words h1
      split <;> omega) (Nat.pow_le_pow_right (by omega) htl2))
  clear h0 h1 h2
  rcases hcase with hc | ⟨rfl, rfl, rfl⟩
  · have hcn : c.toNat ≠ 48 := fun e => hc (UInt8.toNat.inj e)
    have hcz : ¬ (c.toNat : Int) = 48 := by omega
    have hcb : ((c.toNat : Int) == 48) = false := by simp; omega
    have hget : ∀ h, (⟨(c :: r).toArray⟩ : ByteArray)[0]'h = c := fun h => rfl
    go_enter Tryz.func60, Tryz.ntmps60
    go_wp2_with (first
      | (go_at_call 90; (with_reducible refine (prefix_v _ l _ HM.out.1).mono ?_); rintro e w1 ⟨rfl, hb1⟩; have b1 := b0.trans (hb1.mono b0.size); have x1 := x0.below hb1 x0.lt)
      | (go_at_call 91; (with_reducible refine (tprefix_v _ l _ HM.out.2).mono ?_); rintro e w2 ⟨rfl, hb2⟩; have b2 := b1.trans (hb2.mono b1.size); have x2 := x1.below hb2 x1.lt)
      | (go_at_call 92; (with_reducible refine (trim_v _ _ [] ?_ HX.out).mono ?_); (exact HTL.out); rintro e w3 ⟨rfl, hb3⟩; have b3 := b2.trans (hb3.mono b2.size); have x3 := x2.below hb3 x2.lt))
    clear hget hcz hcb hcn hc htl0 htl1 hsz0
    go_loopw [5, 6] (fun tv mv wr => ParseI (c :: r) w3 wr tv mv) (fun tv _ _ => strLen tv)
    case atStart => exact ⟨[], (c :: r), none, 0, 0, rfl, rfl, by omega, HLL.out, ⟨GrpI.start _, rfl, HALL.out, by rw [show decVal [] = 0 from rfl, digs_zero]; exact Wd.nil_ _⟩, brefl _⟩
    case round =>
      obtain ⟨pre, rest, A1, n1, c1, rfl, rfl, hn1, hrl, hK, rr⟩ := hrel
      have bw := b3.trans (rr.mono b3.size)
      have x4 := x3.below rr x3.lt
      by_cases hr0 : rest = []
      · subst hr0
        have hpre := hK.1.fin
        subst hpre
        have hsz1 := size_v []
        go_wp2_with (go_at_call 82; (with_reducible refine (whole_c _ m A1 n1 c1 (digs (decVal (c :: r))) ?_ ?_).mono ?_); (exact hK.2.2.2); omega; rintro e w5 ⟨A5, n5, c5, rfl, h5, hb5⟩; have b5 := bw.trans (hb5.mono bw.size); have x5 := x4.below hb5 x4.lt; obtain ⟨d0, d1⟩ := x5.c2; obtain ⟨f0, f1⟩ := x5.f2)
        rw [val_digs] at h5
        have hz : sgn m (decVal (c :: r)) = valZ l := by rw [HV.out]; rfl
        rw [hz] at h5
        refine bodyPost_ret (v := .tuple #[.agg #[.bool _, .slice A5 n5 c5], .nilIface]) (by simp [results, Tryz.results60, go_sem, *] <;> first | rfl | exact ⟨rfl, rfl⟩) rfl ?_
        exact ⟨_, _, _, _, rfl, IV.mk_ (h5.keep (kp2 ⟨_, _, x5⟩ (by decide) _ _ _ _)) (by rw [val_digs, hz]) HSZ.out, (b5.setCell (by dsimp only; omega) _).setCell (by dsimp only; omega) _⟩
      · have hlp : 0 < rest.length := List.length_pos_iff.2 hr0
        obtain ⟨L, hL⟩ : ∃ L, rest.length = L := ⟨_, rfl⟩
        obtain ⟨k, hk⟩ : ∃ k, (L - 1) % 9 = k := ⟨_, rfl⟩
        have hk9 : k < 9 := by rw [← hk]; exact Nat.mod_lt _ (by omega)
        have hst := hK.1.step (n := k + 1) hlp (by rw [hL, hk])
        rw [hL] at hst hlp hrl
        have hkL := hst.1
        have hsz1 : (⟨rest.toArray⟩ : ByteArray).size = L := hL
        have e1 : ((L : Int) - 1) % 9 = (k : Int) := by omega
        have e2 : (⟨rest.toArray⟩ : ByteArray).extract 0 (k + 1) = ⟨(rest.take (k + 1)).toArray⟩ := by rw [ext_v]; simp
        have e3 : (⟨rest.toArray⟩ : ByteArray).extract (k + 1) L = ⟨(rest.drop (k + 1)).toArray⟩ := by rw [ext_v, List.take_of_length_le]; rw [List.length_drop, hL]; exact Nat.le_refl _
        obtain ⟨x, hx⟩ : ∃ x, decVal (rest.take (k + 1)) = x := ⟨_, rfl⟩
        have htk := all_take hK.2.2.1 (k + 1)
        have hx9 : x < 1000000000 := by
          have h9 := decVal_lt htk
          rw [hx] at h9
          refine Nat.lt_of_lt_of_le h9 (Nat.le_trans (Nat.pow_le_pow_right (by omega) (show (rest.take (k + 1)).length ≤ 9 by rw [List.length_take]; omega)) (by decide))
        have hpd := all_drop hK.2.2.1 (k + 1)
        have HST := Lib.hid hst
        have HXX := Lib.hid hx
        have HTK := Lib.hid htk
        have HLR := Lib.hid hL
        have hnd : (rest.drop (k + 1)).length = L - (k + 1) := by rw [List.length_drop, hL]
        have HND := Lib.hid hnd
        have hT1 : (rest.take (k + 1)).length ≤ 9 := by rw [List.length_take]; omega
        have hT0 : rest.take (k + 1) ≠ [] := fun e => by have := congrArg List.length e; rw [List.length_take, hL] at this; simp at this; omega
        have HT1 := Lib.hid (And.intro hT1 hT0)
        have hpl := decVal_lt (show (pre ++ rest.take (k + 1)).all isDg = true by rw [List.all_append, hK.2.1, htk]; rfl)
        clear hk hst hx htk hL hr0 hnd hT1 hT0
        go_wp2_with (first
          | (go_at_call 93; (with_reducible refine (atoi_v _ (rest.take (k + 1)) x ?_ ?_ ?_ HXX.out).mono ?_); (exact HT1.out.1); (exact HT1.out.2); (exact HTK.out); rintro e w5 ⟨rfl, hb5⟩; have b5 : Below wr.heap.size wr (w5.alloc (.cells #[.int .u32 1000000000] 100)) := hb5.alloc hb5.size _; have y5 : Blk (w5.alloc (.cells #[.int .u32 1000000000] 100)) w5.heap.size 100 #[.int .u32 1000000000] := blkAt _ _ _ rfl)
          | (go_at_call 83; (with_reducible refine (times_n _ A1 n1 c1 (decVal pre) ?_ ?_ w5.heap.size 1000000000 1000000000 ?_ ?_ ?_).mono ?_); (exact hK.2.2.2.belw b5); omega; rfl; omega; (exact y5); rintro e w6 ⟨A6, n6, c6, rfl, h6, hb6⟩; have b6 := b5.trans (hb6.mono b5.size); have hn6 : n6 ≤ 1000000000 := (by have h9 := h6.2.1; rw [h9]; refine Nat.le_trans (length_digs_le (k := n1 + 1) ?_) (by omega); have h8 := (hK.2.2.2).vlt (Nat.le_refl _); rw [val_digs] at h8; rw [Nat.pow_succ]; exact Nat.mul_lt_mul'' h8 (by omega)))
          | (go_at_call 94; (with_reducible refine (trim_n _ w6.heap.size (x : Int) x ?_ ?_ ?_).mono ?_); (first | rfl | omega); omega; (exact blkAt _ _ _ rfl); rintro e w7 ⟨A7, n7, c7, rfl, h7, hb7⟩; have b7 : Below wr.heap.size wr w7 := (b6.alloc b6.size _).trans (hb7.mono (by have := b6.size; simp; omega)); have h67 : Below w6.heap.size w6 w7 := ((brefl w6).alloc (Nat.le_refl _) _).trans (hb7.mono (by simp)); have hn7 : n7 ≤ 1000000000 := (by have h9 := h7.2.1; rw [h9]; exact Nat.le_trans (length_digs_le (k := 1) (by omega)) (by omega)))
          | (go_at_call 86; (with_reducible refine (plus_k _ A6 n6 c6 (decVal pre * 1000000000) ?_ ?_ A7 n7 c7 x ?_ ?_).mono ?_); (exact h6.belw h67); omega; (exact h7); omega; rintro e w8 ⟨A8, n8, c8, rfl, h8, hb8⟩; have b8 := b7.trans (hb8.mono b7.size)))
        have hv8 : decVal pre * 1000000000 + x = decVal (pre ++ rest.take (k + 1)) := by rw [HST.out.2.2.2.2, HXX.out]
        go_roundw
        case rel =>
          refine ⟨pre ++ rest.take (k + 1), rest.drop (k + 1), A8, n8, c8, rfl, rfl, ?_, by rw [HND.out]; omega, ⟨HST.out.2.2.2.1, by rw [List.all_append, hK.2.1, HTK.out]; rfl, hpd, by rw [← hv8]; exact h8⟩, rr.trans (b8.mono rr.size)⟩
          rw [h8.2.1, hv8]
          refine Nat.le_trans (length_digs_le (Nat.lt_of_lt_of_le hpl (len_ten _))) ?_
          have h9 := congrArg List.length HST.out.2.2.2.1.1
          rw [List.length_append] at h9
          omega
        case measure =>
          show (rest.drop (k + 1)).length < rest.length
          rw [HND.out, HLR.out]; omega
  · go_enter Tryz.func60, Tryz.ntmps60
    go_wp2_with (first
      | (go_at_call 90; (with_reducible refine (prefix_v _ l _ HM.out.1).mono ?_); rintro e w1 ⟨rfl, hb1⟩; have b1 := b0.trans (hb1.mono b0.size); have x1 := x0.below hb1 x0.lt)
      | (go_at_call 91; (with_reducible refine (tprefix_v _ l _ HM.out.2).mono ?_); rintro e w2 ⟨rfl, hb2⟩; have b2 := b1.trans (hb2.mono b1.size); have x2 := x1.below hb2 x1.lt)
      | (go_at_call 92; (with_reducible refine (trim_v _ _ [] ?_ HX.out).mono ?_); (exact HTL.out); rintro e w3 ⟨rfl, hb3⟩; have b3 := b2.trans (hb3.mono b2.size); have x3 := x2.below hb3 x2.lt))
    clear htl0 htl1
    go_loopw [5, 6] (fun tv mv wr => ParseI [48] w3 wr tv mv) (fun tv _ _ => strLen tv)
    case atStart => exact ⟨[], [48], none, 0, 0, rfl, rfl, by omega, HLL.out, ⟨GrpI.start _, rfl, HALL.out, by rw [show decVal [] = 0 from rfl, digs_zero]; exact Wd.nil_ _⟩, brefl _⟩
    case round =>
      obtain ⟨pre, rest, A1, n1, c1, rfl, rfl, hn1, hrl, hK, rr⟩ := hrel
      have bw := b3.trans (rr.mono b3.size)
      have x4 := x3.below rr x3.lt
      by_cases hr0 : rest = []
      · subst hr0
        have hpre := hK.1.fin
        subst hpre
        have hsz1 := size_v []
        go_wp2_with (go_at_call 82; (with_reducible refine (whole_c _ false A1 n1 c1 (digs (decVal [48])) ?_ ?_).mono ?_); (exact hK.2.2.2); omega; rintro e w5 ⟨A5, n5, c5, rfl, h5, hb5⟩; have b5 := bw.trans (hb5.mono bw.size); have x5 := x4.below hb5 x4.lt; obtain ⟨d0, d1⟩ := x5.c2; obtain ⟨f0, f1⟩ := x5.f2)
        rw [val_digs] at h5
        have hz : sgn false (decVal [48]) = valZ l := by rw [HV.out]; rfl
        rw [hz] at h5
        refine bodyPost_ret (v := .tuple #[.agg #[.bool _, .slice A5 n5 c5], .nilIface]) (by simp [results, Tryz.results60, go_sem, *] <;> first | rfl | exact ⟨rfl, rfl⟩) rfl ?_
        exact ⟨_, _, _, _, rfl, IV.mk_ (h5.keep (kp2 ⟨_, _, x5⟩ (by decide) _ _ _ _)) (by rw [val_digs, hz]) HSZ.out, (b5.setCell (by dsimp only; omega) _).setCell (by dsimp only; omega) _⟩
      · have hlp : 0 < rest.length := List.length_pos_iff.2 hr0
        obtain ⟨L, hL⟩ : ∃ L, rest.length = L := ⟨_, rfl⟩
        obtain ⟨k, hk⟩ : ∃ k, (L - 1) % 9 = k := ⟨_, rfl⟩
        have hk9 : k < 9 := by rw [← hk]; exact Nat.mod_lt _ (by omega)
        have hst := hK.1.step (n := k + 1) hlp (by rw [hL, hk])
        rw [hL] at hst hlp hrl
        have hkL := hst.1
        have hsz1 : (⟨rest.toArray⟩ : ByteArray).size = L := hL
        have e1 : ((L : Int) - 1) % 9 = (k : Int) := by omega
        have e2 : (⟨rest.toArray⟩ : ByteArray).extract 0 (k + 1) = ⟨(rest.take (k + 1)).toArray⟩ := by rw [ext_v]; simp
        have e3 : (⟨rest.toArray⟩ : ByteArray).extract (k + 1) L = ⟨(rest.drop (k + 1)).toArray⟩ := by rw [ext_v, List.take_of_length_le]; rw [List.length_drop, hL]; exact Nat.le_refl _
        obtain ⟨x, hx⟩ : ∃ x, decVal (rest.take (k + 1)) = x := ⟨_, rfl⟩
        have htk := all_take hK.2.2.1 (k + 1)
        have hx9 : x < 1000000000 := by
          have h9 := decVal_lt htk
          rw [hx] at h9
          refine Nat.lt_of_lt_of_le h9 (Nat.le_trans (Nat.pow_le_pow_right (by omega) (show (rest.take (k + 1)).length ≤ 9 by rw [List.length_take]; omega)) (by decide))
        have hpd := all_drop hK.2.2.1 (k + 1)
        have HST := Lib.hid hst
        have HXX := Lib.hid hx
        have HTK := Lib.hid htk
        have HLR := Lib.hid hL
        have hnd : (rest.drop (k + 1)).length = L - (k + 1) := by rw [List.length_drop, hL]
        have HND := Lib.hid hnd
        have hT1 : (rest.take (k + 1)).length ≤ 9 := by rw [List.length_take]; omega
        have hT0 : rest.take (k + 1) ≠ [] := fun e => by have := congrArg List.length e; rw [List.length_take, hL] at this; simp at this; omega
        have HT1 := Lib.hid (And.intro hT1 hT0)
        have hpl := decVal_lt (show (pre ++ rest.take (k + 1)).all isDg = true by rw [List.all_append, hK.2.1, htk]; rfl)
        clear hk hst hx htk hL hr0 hnd hT1 hT0
        go_wp2_with (first
          | (go_at_call 93; (with_reducible refine (atoi_v _ (rest.take (k + 1)) x ?_ ?_ ?_ HXX.out).mono ?_); (exact HT1.out.1); (exact HT1.out.2); (exact HTK.out); rintro e w5 ⟨rfl, hb5⟩; have b5 : Below wr.heap.size wr (w5.alloc (.cells #[.int .u32 1000000000] 100)) := hb5.alloc hb5.size _; have y5 : Blk (w5.alloc (.cells #[.int .u32 1000000000] 100)) w5.heap.size 100 #[.int .u32 1000000000] := blkAt _ _ _ rfl)
          | (go_at_call 83; (with_reducible refine (times_n _ A1 n1 c1 (decVal pre) ?_ ?_ w5.heap.size 1000000000 1000000000 ?_ ?_ ?_).mono ?_); (exact hK.2.2.2.belw b5); omega; rfl; omega; (exact y5); rintro e w6 ⟨A6, n6, c6, rfl, h6, hb6⟩; have b6 := b5.trans (hb6.mono b5.size); have hn6 : n6 ≤ 1000000000 := (by have h9 := h6.2.1; rw [h9]; refine Nat.le_trans (length_digs_le (k := n1 + 1) ?_) (by omega); have h8 := (hK.2.2.2).vlt (Nat.le_refl _); rw [val_digs] at h8; rw [Nat.pow_succ]; exact Nat.mul_lt_mul'' h8 (by omega)))
          | (go_at_call 94; (with_reducible refine (trim_n _ w6.heap.size (x : Int) x ?_ ?_ ?_).mono ?_); (first | rfl | omega); omega; (exact blkAt _ _ _ rfl); rintro e w7 ⟨A7, n7, c7, rfl, h7, hb7⟩; have b7 : Below wr.heap.size wr w7 := (b6.alloc b6.size _).trans (hb7.mono (by have := b6.size; simp; omega)); have h67 : Below w6.heap.size w6 w7 := ((brefl w6).alloc (Nat.le_refl _) _).trans (hb7.mono (by simp)); have hn7 : n7 ≤ 1000000000 := (by have h9 := h7.2.1; rw [h9]; exact Nat.le_trans (length_digs_le (k := 1) (by omega)) (by omega)))
          | (go_at_call 86; (with_reducible refine (plus_k _ A6 n6 c6 (decVal pre * 1000000000) ?_ ?_ A7 n7 c7 x ?_ ?_).mono ?_); (exact h6.belw h67); omega; (exact h7); omega; rintro e w8 ⟨A8, n8, c8, rfl, h8, hb8⟩; have b8 := b7.trans (hb8.mono b7.size)))
        have hv8 : decVal pre * 1000000000 + x = decVal (pre ++ rest.take (k + 1)) := by rw [HST.out.2.2.2.2, HXX.out]
        go_roundw
        case rel =>
          refine ⟨pre ++ rest.take (k + 1), rest.drop (k + 1), A8, n8, c8, rfl, rfl, ?_, by rw [HND.out]; omega, ⟨HST.out.2.2.2.1, by rw [List.all_append, hK.2.1, HTK.out]; rfl, hpd, by rw [← hv8]; exact h8⟩, rr.trans (b8.mono rr.size)⟩
          rw [h8.2.1, hv8]
          refine Nat.le_trans (length_digs_le (Nat.lt_of_lt_of_le hpl (len_ten _))) ?_
          have h9 := congrArg List.length HST.out.2.2.2.1.1
          rw [List.length_append] at h9
          omega
        case measure =>
          show (rest.drop (k + 1)).length < rest.length
          rw [HND.out, HLR.out]; omega
end Go.Proofs.YtianjkiakkclgaaGreatDoor

/- Walks: linkworkref01.Parse. -/
namespace Go.Proofs.YtianjkiakkclgaaGreatDoor
open Go Go.RowKit Bn

def RetP (w : World) (T : List UInt8) (m : Bool) (k : Nat) (e : Ending) (w' : World) : Prop :=
  if T.all isDg = true then RetIe w (.int .i64 0) (if m then -(decVal T : Int) else decVal T) k e w' else RetIe w (.int .i64 2) 0 0 e w'
theorem RetP.good {w w' : World} {T : List UInt8} {m : Bool} {k : Nat} {e : Ending} (h : T.all isDg = true) (hr : RetIe w (.int .i64 0) (if m then -(decVal T : Int) else decVal T) k e w') : RetP w T m k e w' := by
  unfold RetP; rw [if_pos h]; exact hr
end Go.Proofs.YtianjkiakkclgaaGreatDoor

/- Walks: IntegerTexts. -/
namespace Go.Proofs.YtianjkiakkclgaaGreatDoor
open Go Go.RowKit Bn
attribute [local go_sem ↓] Go.wp_at_zero Go.wp_at_succ
def errV (x : Int) : Value := if x = 0 then .nilIface else .iface 57 (.int .i64 x)
theorem errV_0 : errV 0 = .nilIface := if_pos rfl
def ParseOut (l : List UInt8) (x z : Int) : Prop := (65536 < l.length ∧ x = 4 ∧ z = 0) ∨ (l.length ≤ 65536 ∧ okZ l = false ∧ x = 2 ∧ z = 0) ∨ (l.length ≤ 65536 ∧ okZ l = true ∧ x = 0 ∧ z = valZ l)
theorem parseOut (l : List UInt8) : ∃ x z, ParseOut l x z := by
  by_cases h : 65536 < l.length
  · exact ⟨4, 0, .inl ⟨h, rfl, rfl⟩⟩
  · cases hb : okZ l
    · exact ⟨2, 0, .inr (.inl ⟨by omega, hb, rfl, rfl⟩)⟩
    · exact ⟨0, valZ l, .inr (.inr ⟨by omega, hb, rfl, rfl⟩)⟩
theorem RetIe.mono {w w' : World} {v : Value} {z : Int} {k j : Nat} {e : Ending} (h : RetIe w v z k e w') (hk : k ≤ j) : RetIe w v z j e w' := by
  obtain ⟨b, A, n, c, h1, h2, h3⟩ := h
  exact ⟨b, A, n, c, h1, h2.mono hk, h3⟩
theorem i_parse_o (w : World) (l : List UInt8) (x z : Int) (h : ParseOut l x z) : Calls Tryz.prog 60 #[strV l] w (RetIe w (errV x) z 65536) := by
  rcases h with ⟨h1, rfl, rfl⟩ | ⟨h1, h2, rfl, rfl⟩ | ⟨h1, h2, rfl, rfl⟩
  · exact (i_parse_big w l h1).mono fun e w' r => r.mono (by omega)
  · exact (i_parse_bad w l h1 h2).mono fun e w' r => r.mono (by omega)
  · exact (i_parse_ok w l h1 h2).mono fun e w' r => r.mono (by omega)
end Go.Proofs.YtianjkiakkclgaaGreatDoor

/- Plain: decimals. -/
namespace Go.Proofs.YtianjkiakkclgaaGreatDoor
open Go Go.RowKit Bn
attribute [local go_sem ↓] Go.wp_at_zero Go.wp_at_succ
def NI (z : Int) (B : List UInt8) (i : Nat) : Int := z * 10 ^ i + (decVal (B.take i) : Nat)
theorem NI_zero (z : Int) (B : List UInt8) : NI z B 0 = z := by
  unfold NI; rw [List.take_zero, show decVal [] = 0 from rfl]; simp
theorem NI_succ (z : Int) (B : List UInt8) (i : Nat) (h : i < B.length) : NI z B i * 10 + (dval B[i] : Nat) = NI z B (i + 1) := by
  unfold NI
  rw [List.take_succ_eq_append_getElem h, decVal_snoc, Int.pow_succ]
  push_cast
  rw [Int.add_mul, Int.mul_assoc]; omega
theorem NI_len (z : Int) (B : List UInt8) : NI z B B.length = z * 10 ^ B.length + (decVal B : Nat) := by
  unfold NI; rw [List.take_length]
theorem ten_lt {i : Nat} (hi : i ≤ 64) : (((10 ^ i : Nat) : Int)).natAbs < 4294967296 ^ 64 := by
  rw [Int.natAbs_natCast]
  have h1 : 10 ^ i ≤ 10 ^ 64 := Nat.pow_le_pow_right (by omega) hi
  have h2 : (10 : Nat) ^ 64 < 4294967296 ^ 64 := by decide
  omega
theorem ten_ne (i : Nat) : ((10 ^ i : Nat) : Int) ≠ 0 := by have := Nat.pow_pos (n := i) (show 0 < 10 by omega); omega
theorem NI_lt {x i j : Nat} {B : List UInt8} (hx : x < 10 ^ j) (hB : B.all isDg = true) (hl : i ≤ B.length) (hj : j + B.length ≤ 64) : (NI (x : Int) B i).natAbs < 4294967296 ^ 64 := by
  have h1 : decVal (B.take i) < 10 ^ i := by
    have := decVal_lt (all_take hB i)
    rw [List.length_take, Nat.min_eq_left hl] at this
    exact this
  have h2 : NI (x : Int) B i = ((x * 10 ^ i + decVal (B.take i) : Nat) : Int) := by unfold NI; push_cast; rfl
  rw [h2, Int.natAbs_natCast]
  have h3 : x * 10 ^ i + decVal (B.take i) < 10 ^ (j + i) := by
    rw [Nat.pow_add]
    have : (x + 1) * 10 ^ i ≤ 10 ^ j * 10 ^ i := Nat.mul_le_mul_right _ hx
    rw [Nat.add_mul] at this
    omega
  have h4 : 10 ^ (j + i) ≤ 10 ^ 64 := Nat.pow_le_pow_right (by omega) (by omega)
  have h5 : (10 : Nat) ^ 64 < 4294967296 ^ 64 := by decide
  omega
theorem dec_lt {T : List UInt8} {X : Nat} (h : okZ T = true) (hX : valZ T = (X : Int)) : ∃ J, J ≤ T.length ∧ X < 10 ^ J := by
  obtain ⟨h0, h1, h2⟩ := okZ_parts h
  refine ⟨(tailS T).length, tailS_len T, ?_⟩
  have h3 := decVal_lt h1
  unfold valZ at hX
  split at hX <;> omega
theorem sign_nn {z : Int} (h : 0 ≤ z) : 0 ≤ z.sign := by
  rcases sign3 z with s | s | s
  · rw [s]; decide
  · rw [s]; decide
  · have := Int.sign_eq_neg_one_iff_neg.1 s; omega
theorem ten_succ (i : Nat) : ((10 ^ i : Nat) : Int) * 10 = ((10 ^ (i + 1) : Nat) : Int) := by rw [Nat.pow_succ]; push_cast; rfl
theorem f_dec_1 (w : World) (F B : List UInt8) (hFB : F.length + B.length ≤ 64) (ho : okZ (tailS F) = false) :
  Calls Tryz.prog 59 #[strV F, strV B] w (RetFe w (.iface 57 (.int .i64 2)) 0 64) := by
 obtain ⟨mm, hmm⟩ : ∃ mm, headM F = mm := ⟨_, rfl⟩
 obtain ⟨T, hT⟩ : ∃ T, tailS F = T := ⟨_, rfl⟩
 have HM := Lib.hid hmm
 have HT := Lib.hid hT
 have hTF : T.length ≤ F.length := by rw [← hT]; exact tailS_len F
 have hT6 : T.length ≤ 65536 := by omega
 have hB6 : B.length ≤ 1000000 := by omega
 have htlB := toList_v B
 have htl1 := toList_v []
 have hszB := size_v B
 have HO := Lib.hid (show okZ T = false by rw [← hT]; exact ho)
 clear hmm hT ho
 go_enter Tryz.func59, Tryz.ntmps59
 go_wp2_with fail
 (with_reducible refine (prefix_v _ (F) mm HM.out).mono ?_); rintro e w1 ⟨rfl, hb1⟩
 have q1 := ((Below.refl _ _).alloc (Nat.le_refl _) _).trans (hb1.mono (by simp))
 have x1a : Blk w1 w.heap.size 24 #[.bool false, .slice none 0 0, .slice none 0 0] := (blkAt _ _ _ (by simp)).below hb1 (by simp)
 have bw1 := (brefl w).trans (q1.mono (brefl w).size)
 have lw1 : w.heap.size + 1 ≤ w1.heap.size := by have := hb1.size; simp at this; omega
 clear q1
 go_wp2_with fail
 (with_reducible refine (tprefix_v _ (F) T HT.out).mono ?_); rintro e w2 ⟨rfl, q2⟩
 replace x1a := x1a.b q2
 have bw2 := bw1.trans (q2.mono bw1.size)
 have lw2 := q2.size
 clear q2 bw1
 go_wp2_with fail
 (with_reducible refine (i_parse_bad _ (T) (by omega) HO.out).mono ?_); rintro e w3 ⟨b3, A3, n3, c3, rfl, h3, q3⟩
 replace x1a := x1a.b q3
 have bw3 := bw2.trans (q3.mono bw2.size)
 have lw3 := q3.size
 clear q3 bw2
 obtain ⟨cx1aa, cx1ab, cx1ac⟩ := x1a.c3
 obtain ⟨fx1aa, fx1ab, fx1ac⟩ := x1a.f3
 obtain ⟨lx1aa, lx1ab, lx1ac, lx1ad⟩ := lts0 x1a.lt
 go_wp2_with fail
 refine bodyPost_ret (v := .tuple #[.agg #[.bool false, .slice none 0 0, .slice none 0 0], .iface 57 (.int .i64 2)]) (by simp [results, Tryz.results59, go_sem, *] <;> first | rfl | exact ⟨rfl, rfl⟩) rfl ?_
 exact ⟨_, _, _, _, _, _, _, rfl, QV.zero _ _, ((((bw3.sc w.heap.size 0 (by omega) (.bool false)).sc w.heap.size 1 (by omega) (.slice none 0 0)).sc w.heap.size 2 (by omega) (.slice none 0 0)).alloc (by first | omega | (simp <;> omega)) (.cells #[.bool b3, .slice A3 n3 c3] 77))⟩
theorem f_dec_2 (w : World) (F B : List UInt8) (hFB : F.length + B.length ≤ 64) (ho : okZ (tailS F) = true) (hs : (valZ (tailS F)).sign = -1) :
  Calls Tryz.prog 59 #[strV F, strV B] w (RetFe w (.iface 57 (.int .i64 2)) 0 64) := by
 obtain ⟨mm, hmm⟩ : ∃ mm, headM F = mm := ⟨_, rfl⟩
 obtain ⟨T, hT⟩ : ∃ T, tailS F = T := ⟨_, rfl⟩
 have HM := Lib.hid hmm
 have HT := Lib.hid hT
 have hTF : T.length ≤ F.length := by rw [← hT]; exact tailS_len F
 have hT6 : T.length ≤ 65536 := by omega
 have hB6 : B.length ≤ 1000000 := by omega
 have htlB := toList_v B
 have htl1 := toList_v []
 have hszB := size_v B
 have HO := Lib.hid (show okZ T = true by rw [← hT]; exact ho)
 have HS := Lib.hid (show (valZ T).sign = -1 by rw [← hT]; exact hs)
 clear hmm hT ho hs
 go_enter Tryz.func59, Tryz.ntmps59
 go_wp2_with fail
 (with_reducible refine (prefix_v _ (F) mm HM.out).mono ?_); rintro e w1 ⟨rfl, hb1⟩
 have q1 := ((Below.refl _ _).alloc (Nat.le_refl _) _).trans (hb1.mono (by simp))
 have x1a : Blk w1 w.heap.size 24 #[.bool false, .slice none 0 0, .slice none 0 0] := (blkAt _ _ _ (by simp)).below hb1 (by simp)
 have bw1 := (brefl w).trans (q1.mono (brefl w).size)
 have lw1 : w.heap.size + 1 ≤ w1.heap.size := by have := hb1.size; simp at this; omega
 clear q1
 go_wp2_with fail
 (with_reducible refine (tprefix_v _ (F) T HT.out).mono ?_); rintro e w2 ⟨rfl, q2⟩
 replace x1a := x1a.b q2
 have bw2 := bw1.trans (q2.mono bw1.size)
 have lw2 := q2.size
 clear q2 bw1
 go_wp2_with fail
 (with_reducible refine (i_parse_ok _ (T) (by omega) HO.out).mono ?_); rintro e w3 ⟨b3, A3, n3, c3, rfl, h3, q3⟩
 replace x1a := x1a.b q3
 have bw3 := bw2.trans (q3.mono bw2.size)
 have lw3 := q3.size
 clear q3 bw2
 go_wp2_with fail
 (with_reducible refine (i_sign_e _ b3 A3 n3 c3 (valZ T) (T.length) ?_ ((-1)) ?_ ?_).mono ?_); (exact (h3.belw ((Below.refl _ _).alloc (Nat.le_refl _) _)).iz); (exact HS.out); (omega); rintro e w4 ⟨rfl, hb4⟩
 have q4 := ((Below.refl _ _).alloc (Nat.le_refl _) _).trans (hb4.mono (by simp))
 replace h3 := h3.belw q4
 replace x1a := x1a.b q4
 have x4a : Blk w4 w3.heap.size 77 #[.bool b3, .slice A3 n3 c3] := (blkAt _ _ _ (by simp)).below hb4 (by simp)
 have bw4 := bw3.trans (q4.mono bw3.size)
 have lw4 : w3.heap.size + 1 ≤ w4.heap.size := by have := hb4.size; simp at this; omega
 clear q4 bw3
 obtain ⟨cx1aa, cx1ab, cx1ac⟩ := x1a.c3
 obtain ⟨fx1aa, fx1ab, fx1ac⟩ := x1a.f3
 obtain ⟨lx1aa, lx1ab, lx1ac, lx1ad⟩ := lts0 x1a.lt
 go_wp2_with fail
 refine bodyPost_ret (v := .tuple #[.agg #[.bool false, .slice none 0 0, .slice none 0 0], .iface 57 (.int .i64 2)]) (by simp [results, Tryz.results59, go_sem, *] <;> first | rfl | exact ⟨rfl, rfl⟩) rfl ?_
 exact ⟨_, _, _, _, _, _, _, rfl, QV.zero _ _, (((bw4.sc w.heap.size 0 (by omega) (.bool false)).sc w.heap.size 1 (by omega) (.slice none 0 0)).sc w.heap.size 2 (by omega) (.slice none 0 0))⟩
theorem f_dec_3 (w : World) (F : List UInt8) (hF : F.length ≤ 64) (ho : okZ (tailS F) = true) (hs : 0 ≤ (valZ (tailS F)).sign) :
  Calls Tryz.prog 59 #[strV F, strV []] w (RetFe w (.iface 57 (.int .i64 2)) 0 64) := by
 obtain ⟨B, hB⟩ : ∃ B : List UInt8, B = [] := ⟨_, rfl⟩
 have hFB : F.length + B.length ≤ 64 := by rw [hB]; exact hF
 obtain ⟨mm, hmm⟩ : ∃ mm, headM F = mm := ⟨_, rfl⟩
 obtain ⟨T, hT⟩ : ∃ T, tailS F = T := ⟨_, rfl⟩
 have HM := Lib.hid hmm
 have HT := Lib.hid hT
 have hTF : T.length ≤ F.length := by rw [← hT]; exact tailS_len F
 have hT6 : T.length ≤ 65536 := by omega
 have hB6 : B.length ≤ 1000000 := by omega
 have htlB := toList_v B
 have htl1 := toList_v []
 have hszB := size_v B
 have HO := Lib.hid (show okZ T = true by rw [← hT]; exact ho)
 obtain ⟨s, hs1⟩ : ∃ s, (valZ T).sign = s := ⟨_, rfl⟩
 have es : (s < 0) = False := by simp; rw [← hs1, ← hT]; exact hs
 have HS := Lib.hid hs1
 clear hmm hT ho hs hs1 hFB htlB hszB
 go_enter Tryz.func59, Tryz.ntmps59
 go_wp2_with fail
 (with_reducible refine (prefix_v _ (F) mm HM.out).mono ?_); rintro e w1 ⟨rfl, hb1⟩
 have q1 := ((Below.refl _ _).alloc (Nat.le_refl _) _).trans (hb1.mono (by simp))
 have x1a : Blk w1 w.heap.size 24 #[.bool false, .slice none 0 0, .slice none 0 0] := (blkAt _ _ _ (by simp)).below hb1 (by simp)
 have bw1 := (brefl w).trans (q1.mono (brefl w).size)
 have lw1 : w.heap.size + 1 ≤ w1.heap.size := by have := hb1.size; simp at this; omega
 clear q1
 go_wp2_with fail
 (with_reducible refine (tprefix_v _ (F) T HT.out).mono ?_); rintro e w2 ⟨rfl, q2⟩
 replace x1a := x1a.b q2
 have bw2 := bw1.trans (q2.mono bw1.size)
 have lw2 := q2.size
 clear q2 bw1
 go_wp2_with fail
 (with_reducible refine (i_parse_ok _ (T) (by omega) HO.out).mono ?_); rintro e w3 ⟨b3, A3, n3, c3, rfl, h3, q3⟩
 replace x1a := x1a.b q3
 have bw3 := bw2.trans (q3.mono bw2.size)
 have lw3 := q3.size
 clear q3 bw2
 go_wp2_with fail
 (with_reducible refine (i_sign_e _ b3 A3 n3 c3 (valZ T) (T.length) ?_ (s) ?_ ?_).mono ?_); (exact (h3.belw ((Below.refl _ _).alloc (Nat.le_refl _) _)).iz); (exact HS.out); (omega); rintro e w4 ⟨rfl, hb4⟩
 have q4 := ((Below.refl _ _).alloc (Nat.le_refl _) _).trans (hb4.mono (by simp))
 replace h3 := h3.belw q4
 replace x1a := x1a.b q4
 have x4a : Blk w4 w3.heap.size 77 #[.bool b3, .slice A3 n3 c3] := (blkAt _ _ _ (by simp)).below hb4 (by simp)
 have bw4 := bw3.trans (q4.mono bw3.size)
 have lw4 : w3.heap.size + 1 ≤ w4.heap.size := by have := hb4.size; simp at this; omega
 clear q4 bw3
 obtain ⟨cx1aa, cx1ab, cx1ac⟩ := x1a.c3
 obtain ⟨fx1aa, fx1ab, fx1ac⟩ := x1a.f3
 obtain ⟨lx1aa, lx1ab, lx1ac, lx1ad⟩ := lts0 x1a.lt
 go_wp2_with fail
 refine bodyPost_ret (v := .tuple #[.agg #[.bool false, .slice none 0 0, .slice none 0 0], .iface 57 (.int .i64 2)]) (by simp [results, Tryz.results59, go_sem, *] <;> first | rfl | exact ⟨rfl, rfl⟩) rfl ?_
 exact ⟨_, _, _, _, _, _, _, rfl, QV.zero _ _, (((bw4.sc w.heap.size 0 (by omega) (.bool false)).sc w.heap.size 1 (by omega) (.slice none 0 0)).sc w.heap.size 2 (by omega) (.slice none 0 0))⟩
theorem f_dec_4 (w : World) (F B : List UInt8) (hFB : F.length + B.length ≤ 64) (ho : okZ (tailS F) = true) (hs : 0 ≤ (valZ (tailS F)).sign) (hB : B ≠ []) (ha : B.all isDg = false) :
  Calls Tryz.prog 59 #[strV F, strV B] w (RetFe w (.iface 57 (.int .i64 2)) 0 64) := by
 obtain ⟨mm, hmm⟩ : ∃ mm, headM F = mm := ⟨_, rfl⟩
 obtain ⟨T, hT⟩ : ∃ T, tailS F = T := ⟨_, rfl⟩
 have HM := Lib.hid hmm
 have HT := Lib.hid hT
 have hTF : T.length ≤ F.length := by rw [← hT]; exact tailS_len F
 have hT6 : T.length ≤ 65536 := by omega
 have hB6 : B.length ≤ 1000000 := by omega
 have htlB := toList_v B
 have htl1 := toList_v []
 have hszB := size_v B
 have HO := Lib.hid (show okZ T = true by rw [← hT]; exact ho)
 obtain ⟨s, hs1⟩ : ∃ s, (valZ T).sign = s := ⟨_, rfl⟩
 have es : (s < 0) = False := by simp; rw [← hs1, ← hT]; exact hs
 have HS := Lib.hid hs1
 obtain ⟨x, xs, hx⟩ := List.exists_cons_of_ne_nil (show Lib.trimS B digs10 ≠ [] from fun e => by rw [trim_dg.1 e] at ha; cases ha)
 have HX := Lib.hid hx
 have htlx := toList_v (x :: xs)
 clear hmm hT ho hs hs1 ha hx
 obtain ⟨y, ys, rfl⟩ := List.exists_cons_of_ne_nil hB
 go_enter Tryz.func59, Tryz.ntmps59
 go_wp2_with fail
 (with_reducible refine (prefix_v _ (F) mm HM.out).mono ?_); rintro e w1 ⟨rfl, hb1⟩
 have q1 := ((Below.refl _ _).alloc (Nat.le_refl _) _).trans (hb1.mono (by simp))
 have x1a : Blk w1 w.heap.size 24 #[.bool false, .slice none 0 0, .slice none 0 0] := (blkAt _ _ _ (by simp)).below hb1 (by simp)
 have bw1 := (brefl w).trans (q1.mono (brefl w).size)
 have lw1 : w.heap.size + 1 ≤ w1.heap.size := by have := hb1.size; simp at this; omega
 clear q1
 go_wp2_with fail
 (with_reducible refine (tprefix_v _ (F) T HT.out).mono ?_); rintro e w2 ⟨rfl, q2⟩
 replace x1a := x1a.b q2
 have bw2 := bw1.trans (q2.mono bw1.size)
 have lw2 := q2.size
 clear q2 bw1
 go_wp2_with fail
 (with_reducible refine (i_parse_ok _ (T) (by omega) HO.out).mono ?_); rintro e w3 ⟨b3, A3, n3, c3, rfl, h3, q3⟩
 replace x1a := x1a.b q3
 have bw3 := bw2.trans (q3.mono bw2.size)
 have lw3 := q3.size
 clear q3 bw2
 go_wp2_with fail
 (with_reducible refine (i_sign_e _ b3 A3 n3 c3 (valZ T) (T.length) ?_ (s) ?_ ?_).mono ?_); (exact (h3.belw ((Below.refl _ _).alloc (Nat.le_refl _) _)).iz); (exact HS.out); (omega); rintro e w4 ⟨rfl, hb4⟩
 have q4 := ((Below.refl _ _).alloc (Nat.le_refl _) _).trans (hb4.mono (by simp))
 replace h3 := h3.belw q4
 replace x1a := x1a.b q4
 have x4a : Blk w4 w3.heap.size 77 #[.bool b3, .slice A3 n3 c3] := (blkAt _ _ _ (by simp)).below hb4 (by simp)
 have bw4 := bw3.trans (q4.mono bw3.size)
 have lw4 : w3.heap.size + 1 ≤ w4.heap.size := by have := hb4.size; simp at this; omega
 clear q4 bw3
 go_wp2_with fail
 (with_reducible refine (trim_v _ ((y :: ys)) ((x :: xs)) (by omega) HX.out).mono ?_); rintro e w5 ⟨rfl, q5⟩
 replace h3 := h3.belw q5
 replace x1a := x1a.b q5
 replace x4a := x4a.b q5
 have bw5 := bw4.trans (q5.mono bw4.size)
 have lw5 := q5.size
 clear q5 bw4
 obtain ⟨cx1aa, cx1ab, cx1ac⟩ := x1a.c3
 obtain ⟨fx1aa, fx1ab, fx1ac⟩ := x1a.f3
 obtain ⟨lx1aa, lx1ab, lx1ac, lx1ad⟩ := lts0 x1a.lt
 go_wp2_with fail
 refine bodyPost_ret (v := .tuple #[.agg #[.bool false, .slice none 0 0, .slice none 0 0], .iface 57 (.int .i64 2)]) (by simp [results, Tryz.results59, go_sem, *] <;> first | rfl | exact ⟨rfl, rfl⟩) rfl ?_
 exact ⟨_, _, _, _, _, _, _, rfl, QV.zero _ _, (((bw5.sc w.heap.size 0 (by omega) (.bool false)).sc w.heap.size 1 (by omega) (.slice none 0 0)).sc w.heap.size 2 (by omega) (.slice none 0 0))⟩
theorem f_dec_ok_t (w : World) (F B : List UInt8) (hFB : F.length + B.length ≤ 64) (hm : headM F = true) (ho : okZ (tailS F) = true) (hz : 0 ≤ valZ (tailS F)) (hB : B ≠ []) (ha : B.all isDg = true) :
    Calls Tryz.prog 59 #[strV F, strV B] w (RetFe w .nilIface (decQ F B) 64) := by
  have hmm : headM F = true := hm
  obtain ⟨T, hT⟩ : ∃ T, tailS F = T := ⟨_, rfl⟩
  have HM := Lib.hid hmm
  have HT := Lib.hid hT
  have hTF : T.length ≤ F.length := by rw [← hT]; exact tailS_len F
  have hT6 : T.length ≤ 65536 := by omega
  have hB6 : B.length ≤ 1000000 := by omega
  have htlB := toList_v B
  have htl1 := toList_v []
  have hszB := size_v B
  have HO := Lib.hid (show okZ T = true by rw [← hT]; exact ho)
  have hs : 0 ≤ (valZ (tailS F)).sign := sign_nn hz
  obtain ⟨s, hs1⟩ : ∃ s, (valZ T).sign = s := ⟨_, rfl⟩
  have es : (s < 0) = False := by simp; rw [← hs1, ← hT]; exact hs
  have HS := Lib.hid hs1
  have HX := Lib.hid (trim_dg.2 ha)
  obtain ⟨X, hX⟩ : ∃ X : Nat, valZ T = (X : Int) := ⟨(valZ T).toNat, by rw [← hT]; omega⟩
  obtain ⟨J, hJ, hX2⟩ : ∃ J, J ≤ T.length ∧ X < 10 ^ J := dec_lt (by rw [← hT]; exact ho) hX
  have HA := Lib.hid ha
  have HX3 := Lib.hid (And.intro hX2 (show J + B.length ≤ 64 by omega))
  have HX2 := Lib.hid hX
  have HQ := Lib.hid (show Rat.divInt (-NI (X : Int) B B.length) ((10 ^ B.length : Nat) : Int) = decQ F B by
    unfold decQ decN; rw [hm, hT, hX, NI_len]; push_cast; rfl)
  have hB64 : B.length ≤ 64 := by omega
  have HSQ := Lib.hid (show Sz (decQ F B) 64 by
    rw [← HQ.out]
    exact Sz_divInt (by rw [Int.natAbs_neg]; exact NI_lt HX3.out.1 ha (Nat.le_refl _) HX3.out.2) (ten_lt hB64) (by decide))
  clear hmm hm hT ho hs hs1 ha hz hX hX2 hJ
  obtain ⟨y, ys, hyy⟩ := List.exists_cons_of_ne_nil hB
  have hBe : ((⟨B.toArray⟩ : ByteArray) == ⟨#[]⟩) = false := by rw [hyy]; rfl
  have hBl : (B == []) = false := by rw [hyy]; rfl
  have hBp : 0 < B.length := by rw [hyy]; simp
  clear hyy
  go_enter Tryz.func59, Tryz.ntmps59
  go_wp2_with fail
  (with_reducible refine (prefix_v _ (F) true HM.out).mono ?_); rintro e w1 ⟨rfl, hb1⟩
  have q1 := ((Below.refl _ _).alloc (Nat.le_refl _) _).trans (hb1.mono (by simp))
  have x1a : Blk w1 w.heap.size 24 #[.bool false, .slice none 0 0, .slice none 0 0] := (blkAt _ _ _ (by simp)).below hb1 (by simp)
  have bw1 := (brefl w).trans (q1.mono (brefl w).size)
  have lw1 : w.heap.size + 1 ≤ w1.heap.size := by have := hb1.size; simp at this; omega
  clear q1
  go_wp2_with fail
  (with_reducible refine (tprefix_v _ (F) T HT.out).mono ?_); rintro e w2 ⟨rfl, q2⟩
  replace x1a := x1a.b q2
  have bw2 := bw1.trans (q2.mono bw1.size)
  have lw2 := q2.size
  clear q2 bw1
  go_wp2_with fail
  (with_reducible refine (i_parse_ok _ (T) (by omega) HO.out).mono ?_); rintro e w3 ⟨b3, A3, n3, c3, rfl, h3, q3⟩
  replace x1a := x1a.b q3
  have bw3 := bw2.trans (q3.mono bw2.size)
  have lw3 := q3.size
  clear q3 bw2
  go_wp2_with fail
  (with_reducible refine (i_sign_e _ b3 A3 n3 c3 (valZ T) (T.length) ?_ (s) ?_ ?_).mono ?_); (exact (h3.belw ((Below.refl _ _).alloc (Nat.le_refl _) _)).iz); (exact HS.out); (omega); rintro e w4 ⟨rfl, hb4⟩
  have q4 := ((Below.refl _ _).alloc (Nat.le_refl _) _).trans (hb4.mono (by simp))
  replace h3 := h3.belw q4
  replace x1a := x1a.b q4
  have x4a : Blk w4 w3.heap.size 77 #[.bool b3, .slice A3 n3 c3] := (blkAt _ _ _ (by simp)).below hb4 (by simp)
  have bw4 := bw3.trans (q4.mono bw3.size)
  have lw4 : w3.heap.size + 1 ≤ w4.heap.size := by have := hb4.size; simp at this; omega
  clear q4 bw3
  go_wp2_with fail
  (with_reducible refine (trim_v _ (B) ([]) (by omega) HX.out).mono ?_); rintro e w5 ⟨rfl, q5⟩
  replace h3 := h3.belw q5
  replace x1a := x1a.b q5
  replace x4a := x4a.b q5
  have bw5 := bw4.trans (q5.mono bw4.size)
  have lw5 := q5.size
  clear q5 bw4
  go_wp2_with fail
  (with_reducible refine (i_of1 _ (10) ?_ ?_).mono ?_); (first | omega | decide | assumption); (first | omega | decide | assumption); rintro e w6 ⟨b6, A6, n6, c6, rfl, h6, q6⟩
  replace h3 := h3.belw q6
  replace x1a := x1a.b q6
  replace x4a := x4a.b q6
  have bw6 := bw5.trans (q6.mono bw5.size)
  have lw6 := q6.size
  clear q6 bw5
  go_wp2_with fail
  (with_reducible refine (f_one _).mono ?_); rintro e w7 ⟨b7, A7, n7, c7, rfl, h7, q7⟩
  replace h3 := h3.belw q7
  replace h6 := h6.belw q7
  replace x1a := x1a.b q7
  replace x4a := x4a.b q7
  have bw7 := bw6.trans (q7.mono bw6.size)
  have lw7 := q7.size
  clear q7 bw6
  go_wp2_with fail
  have p8 := (((Kp.refl w7).alloc (.cells #[.bool b6, .slice A6 n6 c6] 77)).alloc (.cells #[.bool b7, .slice A7 n7 c7] 77))
  have bw8 := ((bw7.alloc (by first | omega | (simp <;> omega)) (.cells #[.bool b6, .slice A6 n6 c6] 77)).alloc (by first | omega | (simp <;> omega)) (.cells #[.bool b7, .slice A7 n7 c7] 77))
  have x8a : Blk ((w7.alloc (.cells #[.bool b6, .slice A6 n6 c6] 77)).alloc (.cells #[.bool b7, .slice A7 n7 c7] 77)) w7.heap.size 77 #[.bool b6, .slice A6 n6 c6] := ((blkAt _ _ _ (by simp)).alloc (.cells #[.bool b7, .slice A7 n7 c7] 77))
  have x8b : Blk ((w7.alloc (.cells #[.bool b6, .slice A6 n6 c6] 77)).alloc (.cells #[.bool b7, .slice A7 n7 c7] 77)) (w7.heap.size + 1) 77 #[.bool b7, .slice A7 n7 c7] := (blkAt _ _ _ (by simp))
  replace x1a := ((x1a.alloc (.cells #[.bool b6, .slice A6 n6 c6] 77)).alloc (.cells #[.bool b7, .slice A7 n7 c7] 77))
  replace x4a := ((x4a.alloc (.cells #[.bool b6, .slice A6 n6 c6] 77)).alloc (.cells #[.bool b7, .slice A7 n7 c7] 77))
  have lw8 : w7.heap.size + 2 ≤ ((w7.alloc (.cells #[.bool b6, .slice A6 n6 c6] 77)).alloc (.cells #[.bool b7, .slice A7 n7 c7] 77)).heap.size := by simp
  generalize hE8 : ((w7.alloc (.cells #[.bool b6, .slice A6 n6 c6] 77)).alloc (.cells #[.bool b7, .slice A7 n7 c7] 77)) = w8 at p8 bw8 lw8 x8a x8b x1a x4a ⊢
  clear hE8
  replace h3 := h3.keep p8
  replace h6 := h6.keep p8
  replace h7 := h7.keep p8
  clear bw7
  go_loopw [43] (fun iv wr => ∃ (i : Nat) (bn : Bool) (An : Option Addr) (nn cn : Nat) (bs : Bool) (As : Option Addr) (ns cs : Nat), iv = .int .i64 (i : Nat) ∧ i ≤ B.length ∧ IV wr bn An nn cn (NI (X : Int) B i) 64 ∧ IV wr bs As ns cs ((10 ^ i : Nat) : Int) 64 ∧ Kp w8 wr ∧ Below w.heap.size w wr ∧ w8.heap.size ≤ wr.heap.size ∧ Blk wr w.heap.size 24 #[.bool false, .slice none 0 0, .slice none 0 0] ∧ Blk wr w3.heap.size 77 #[.bool bn, .slice An nn cn] ∧ Blk wr w7.heap.size 77 #[.bool b6, .slice A6 n6 c6] ∧ Blk wr (w7.heap.size + 1) 77 #[.bool bs, .slice As ns cs]) (fun iv _ => B.length - (intOf iv).toNat)
  case atStart => exact ⟨0, b3, A3, n3, c3, b7, A7, n7, c7, rfl, Nat.zero_le _, (by rw [NI_zero, ← HX2.out]; exact h3.mono (by omega)), (by rw [show ((10 ^ 0 : Nat) : Int) = 1 from rfl]; exact h7.mono (by omega)), Kp.refl _, bw8, Nat.le_refl _, x1a, x4a, x8a, x8b⟩
  case round =>
    clear x1a
    clear x4a
    clear x8a
    clear x8b
    obtain ⟨i, bn, An, nn, cn, bs, As, ns, cs, rfl, hi, ho, hp, hkp, hbw, hlw, x1a, x4a, x8a, x8b⟩ := hrel
    replace h3 := h3.keep hkp
    replace h6 := h6.keep hkp
    replace h7 := h7.keep hkp
    by_cases hlt : i < B.length
    · obtain ⟨d, hd⟩ : ∃ d, B[i] = d := ⟨_, rfl⟩
      have hdg : isDg d = true := List.all_eq_true.1 HA.out d (by rw [← hd]; exact List.getElem_mem _)
      have hget : ∀ h, (⟨B.toArray⟩ : ByteArray)[i]'h = d := fun h => hd
      have h8 : 48 ≤ d.toNat ∧ d.toNat ≤ 57 := by unfold isDg at hdg; rw [Bool.and_eq_true, decide_eq_true_eq, decide_eq_true_eq] at hdg; exact hdg
      obtain ⟨dn, hdn⟩ : ∃ dn, d.toNat = dn := ⟨_, rfl⟩
      obtain ⟨v, hv⟩ : ∃ v, dn - 48 = v := ⟨_, rfl⟩
      rw [hdn] at h8
      have e1 : (dn : Int) - 48 = (v : Int) := by omega
      have hv9 : v ≤ 9 := by omega
      have h81 := h8.1
      have h82 := h8.2
      have HD : dval d = v := by unfold dval; rw [hdn]; exact hv
      have HNI := Lib.hid (show NI (X : Int) B i * 10 + (v : Nat) = NI (X : Int) B (i + 1) by rw [← NI_succ _ _ _ hlt, hd, HD])
      have HB1 := Lib.hid (NI_lt HX3.out.1 HA.out (show i + 1 ≤ B.length by omega) HX3.out.2)
      have HB2 := Lib.hid (ten_lt (i := i + 1) (by omega))
      have hw8 : IntKind.u8.wrap (v : Int) = (v : Int) := IntWalk.u8_in _ ⟨by omega, by omega⟩
      have hw64 : IntKind.i64.wrap (v : Int) = (v : Int) := IntWalk.i64_in _ ⟨by omega, by omega⟩
      have hi0 : (0 : Int) ≤ (i : Int) := by omega
      have hiL : (i : Int) < (B.length : Int) := by omega
      clear hd hdg h8 hv HD
      obtain ⟨cx4aa, cx4ab⟩ := x4a.c2
      obtain ⟨lx4aa, lx4ab, lx4ac, lx4ad⟩ := lts0 x4a.lt
      obtain ⟨cx8aa, cx8ab⟩ := x8a.c2
      obtain ⟨lx8aa, lx8ab, lx8ac, lx8ad⟩ := lts0 x8a.lt
      go_wp2_with fail
      refine wp_region_lin (B := w.heap.size) (fr := fun xf => ⟨List.toArray (strV T :: strV B :: undef :: undef :: .pointer (some ⟨w.heap.size, 0, none⟩) :: .nilIface :: .bool true :: .pointer (some ⟨w3.heap.size, 0, none⟩) :: .nilIface :: .pointer (some ⟨w7.heap.size, 0, none⟩) :: .pointer (some ⟨w7.heap.size + 1, 0, none⟩) :: .int .i64 (i : Nat) :: strV F :: .bool true :: strV F :: strV T :: .tuple #[.agg #[.bool b3, .slice A3 n3 c3], .nilIface] :: strV T :: .tuple #[.agg #[.bool b3, .slice A3 n3 c3], .nilIface] :: .agg #[.bool b3, .slice A3 n3 c3] :: .nilIface :: .nilIface :: .bool false :: .bool false :: .agg #[.bool b3, .slice A3 n3 c3] :: .int .i64 s :: .bool false :: .bool false :: .bool false :: strV B :: .bool false :: .bool false :: .bool false :: strV B :: strV [] :: .bool false :: .bool false :: undef :: undef :: .agg #[.bool b6, .slice A6 n6 c6] :: .agg #[.bool b7, .slice A7 n7 c7] :: strV B :: .int .i64 (B.length : Nat) :: .int .i64 (i : Nat) :: .bool true :: .int .i64 (i : Nat) :: xf 0 :: xf 1 :: xf 2 :: xf 3 :: xf 4 :: xf 5 :: xf 6 :: xf 7 :: xf 8 :: xf 9 :: u56 :: u57 :: u58 :: u59 :: undef :: undef :: undef :: undef :: undef :: undef :: []), []⟩) (R := fun ri => List.getD ((PEq (.agg #[.bool bn, .slice An nn cn])) :: (PEq (.agg #[.bool b6, .slice A6 n6 c6])) :: (VI ((NI (X : Int) B i) * ((10 : Int))) ((64) + (1))) :: (PEq (strV B)) :: (PEq (.int .i64 (i : Nat))) :: (PEq (.int .u8 (dn : Nat))) :: (PEq (.int .u8 (v : Nat))) :: (PEq (.int .i64 (v : Nat))) :: (VI (((v : Nat) : Int)) (1)) :: (VI (((NI (X : Int) B i) * ((10 : Int))) + (((v : Nat) : Int))) (((64) + (1)) + (1) + 1)) :: PAny :: []) ri (fun _ _ => True)) (es := []) (ow := [⟨w.heap.size, 11, 0, 24, #[.bool false, .slice none 0 0, .slice none 0 0], CAny⟩, ⟨w3.heap.size, 10, 0, 77, #[.bool bn, .slice An nn cn], CI (((NI (X : Int) B i) * ((10 : Int))) + (((v : Nat) : Int))) (((64) + (1)) + (1) + 1)⟩, ⟨w7.heap.size, 11, 0, 77, #[.bool b6, .slice A6 n6 c6], CAny⟩, ⟨w7.heap.size + 1, 11, 0, 77, #[.bool bs, .slice As ns cs], CAny⟩]) (x0 := (upd (upd (upd (upd (upd (upd (upd (upd (upd (upd (fun _ => undef) 0 (u46)) 1 (u47)) 2 (u48)) 3 (u49)) 4 (u50)) 5 (u51)) 6 (u52)) 7 (u53)) 8 (u54)) 9 (u55))) (by kernel_rfl)
        (each_of ⟨fun _ _ => rfl, fun _ _ => rfl, fun _ _ => rfl, fun _ _ => rfl, fun _ _ => rfl, fun _ _ => rfl, fun _ _ => rfl, fun _ _ => rfl, fun _ _ => rfl, fun _ _ => rfl, fun _ _ => rfl, trivial⟩) (each_of (acyc_from _ 0 (by kernel_rfl))) (AllStab.get _ ⟨stEq _, stEq _, stI _ _, stEq _, stEq _, stEq _, stEq _, stEq _, stI _ _, stI _ _, stAny, trivial⟩)
        (fun _ h => nomatch h) (List.forall_mem_cons.2 ⟨scAny, List.forall_mem_cons.2 ⟨scI _ _, List.forall_mem_cons.2 ⟨scAny, List.forall_mem_cons.2 ⟨scAny, fun _ h => nomatch h⟩⟩⟩⟩) (fun _ h => nomatch h) hbw.size
        (List.forall_mem_cons.2 ⟨⟨x1a, by show w.heap.size ≤ w.heap.size; omega⟩, List.forall_mem_cons.2 ⟨⟨x4a, by show w.heap.size ≤ w3.heap.size; omega⟩, List.forall_mem_cons.2 ⟨⟨x8a, by show w.heap.size ≤ w7.heap.size; omega⟩, List.forall_mem_cons.2 ⟨⟨x8b, by show w.heap.size ≤ w7.heap.size + 1; omega⟩, fun _ h => nomatch h⟩⟩⟩⟩) (ownDist (by simp <;> omega))
        (each_of ⟨?_, ?_, ?_, ?_, ?_, ?_, ?_, ?_, ?_, ?_, ?_, trivial⟩) ?_
      · exact .inl ⟨by simp, by simp, fun xf wq hk hbl hd K hK => by
          have y : Blk wq w3.heap.size 77 #[.bool bn, .slice An nn cn] := hbl _ (List.Mem.tail _ (List.Mem.head _)) (by simp [Region.binds])
          obtain ⟨hcl0, hcl1⟩ := y.c2
          (try dsimp only)
          go_simp
          exact hK.out (.agg #[.bool bn, .slice An nn cn]) _ rfl (brefl _)⟩
      · exact .inl ⟨by simp, by simp, fun xf wq hk hbl hd K hK => by
          have y : Blk wq w7.heap.size 77 #[.bool b6, .slice A6 n6 c6] := hbl _ (List.Mem.tail _ (List.Mem.tail _ (List.Mem.head _))) (by simp [Region.binds])
          obtain ⟨hcl0, hcl1⟩ := y.c2
          (try dsimp only)
          go_simp
          exact hK.out (.agg #[.bool b6, .slice A6 n6 c6]) _ rfl (brefl _)⟩
      · exact .inl ⟨by simp, by simp, fun xf wq hk hbl hd K hK => by
          have dq0 : xf 0 = .agg #[.bool bn, .slice An nn cn] := hd ⟨0, .data⟩ (by simp) rfl
          have dq1 : xf 1 = .agg #[.bool b6, .slice A6 n6 c6] := hd ⟨1, .data⟩ (by simp) rfl
          (try dsimp only); (try simp only [dq0, dq1])
          go_simp
          go_at_call 50
          (with_reducible refine (i_mul _ bn An nn cn (NI (X : Int) B i) (64) ?_ b6 A6 n6 c6 ((10 : Int)) (1) ?_ ?_).mono ?_); (exact (ho.keep hk).iz); (exact (h6.keep hk).iz); (first | omega | decide | assumption); rintro e wr ⟨b10, A10, n10, c10, rfl, h10, hbr⟩
          have hz := hK.out _ _ ⟨b10, A10, n10, c10, rfl, h10⟩ hbr
          simp only [dq0, dq1] at hz
          exact hz⟩
      · exact .inl ⟨by simp, by simp, fun xf wq hk hbl hd K hK => by
          (try dsimp only)
          go_simp
          exact hK.out (strV B) _ rfl (brefl _)⟩
      · exact .inl ⟨by simp, by simp, fun xf wq hk hbl hd K hK => by
          (try dsimp only)
          go_simp
          exact hK.out (.int .i64 (i : Nat)) _ rfl (brefl _)⟩
      · exact .inl ⟨by simp, by simp, fun xf wq hk hbl hd K hK => by
          have dq3 : xf 3 = strV B := hd ⟨3, .data⟩ (by simp) rfl
          have dq4 : xf 4 = .int .i64 (i : Nat) := hd ⟨4, .data⟩ (by simp) rfl
          (try dsimp only); (try simp only [dq3, dq4])
          go_simp
          have hz := hK.out (.int .u8 (dn : Nat)) _ rfl (brefl _)
          simp only [dq3, dq4] at hz
          exact hz⟩
      · exact .inl ⟨by simp, by simp, fun xf wq hk hbl hd K hK => by
          have dq5 : xf 5 = .int .u8 (dn : Nat) := hd ⟨5, .data⟩ (by simp) rfl
          (try dsimp only); (try simp only [dq5])
          go_simp
          have hz := hK.out (.int .u8 (v : Nat)) _ rfl (brefl _)
          simp only [dq5] at hz
          exact hz⟩
      · exact .inl ⟨by simp, by simp, fun xf wq hk hbl hd K hK => by
          have dq6 : xf 6 = .int .u8 (v : Nat) := hd ⟨6, .data⟩ (by simp) rfl
          (try dsimp only); (try simp only [dq6])
          go_simp
          have hz := hK.out (.int .i64 (v : Nat)) _ rfl (brefl _)
          simp only [dq6] at hz
          exact hz⟩
      · exact .inl ⟨by simp, by simp, fun xf wq hk hbl hd K hK => by
          have dq7 : xf 7 = .int .i64 (v : Nat) := hd ⟨7, .data⟩ (by simp) rfl
          (try dsimp only); (try simp only [dq7])
          go_simp
          go_at_call 53
          (with_reducible refine (i_of1 _ ((v : Nat)) ?_ ?_).mono ?_); (first | omega | decide | assumption); (first | omega | decide | assumption); rintro e wr ⟨b11, A11, n11, c11, rfl, h11, hbr⟩
          have hz := hK.out _ _ ⟨b11, A11, n11, c11, rfl, h11⟩ hbr
          simp only [dq7] at hz
          exact hz⟩
      · exact .inl ⟨by simp, by simp, fun xf wq hk hbl hd K hK => by
          obtain ⟨b10, A10, n10, c10, dq2, h10⟩ : VI ((NI (X : Int) B i) * ((10 : Int))) ((64) + (1)) (xf 2) wq := hd ⟨2, .data⟩ (by simp) rfl
          obtain ⟨b11, A11, n11, c11, dq8, h11⟩ : VI (((v : Nat) : Int)) (1) (xf 8) wq := hd ⟨8, .data⟩ (by simp) rfl
          (try dsimp only); (try simp only [dq2, dq8])
          go_simp
          go_at_call 52
          (with_reducible refine (i_add _ b10 A10 n10 c10 ((NI (X : Int) B i) * ((10 : Int))) ((64) + (1)) ?_ b11 A11 n11 c11 (((v : Nat) : Int)) (1) ?_ ?_).mono ?_); (exact h10.iz); (exact h11.iz); (first | omega | decide | assumption); rintro e wr ⟨b12, A12, n12, c12, rfl, h12, hbr⟩
          have hz := hK.out _ _ ⟨b12, A12, n12, c12, rfl, h12⟩ hbr
          simp only [dq2, dq8] at hz
          exact hz⟩
      · exact .inr (.inr (.inr ⟨⟨w3.heap.size, 10, 0, 77, #[.bool bn, .slice An nn cn], CI (((NI (X : Int) B i) * ((10 : Int))) + (((v : Nat) : Int))) (((64) + (1)) + (1) + 1)⟩, by simp, rfl, by simp, by simp, (show KT 77 = false by decide), fun _ _ => True.intro, fun xf wq hblk hd => by
          obtain ⟨b12, A12, n12, c12, dq9, h12⟩ : VI (((NI (X : Int) B i) * ((10 : Int))) + (((v : Nat) : Int))) (((64) + (1)) + (1) + 1) (xf 9) wq := hd ⟨9, .data⟩ (by simp) rfl
          dsimp only at hblk
          refine ⟨[.bool b12, .slice A12 n12 c12], fun w' hk => ⟨b12, A12, n12, c12, rfl, h12.keep hk⟩, fun K hK => ?_⟩
          have hc0 : wq.cell? ⟨w3.heap.size, 0, none⟩ = some (.bool bn) := hblk.cell 0
          have hc1 : wq.cell? ⟨w3.heap.size, 1, none⟩ = some (.slice An nn cn) := hblk.cell 1
          have hf0 : wq.frozen? ⟨w3.heap.size, 0, none⟩ = false := hblk.frozen 0
          have hf1 : wq.frozen? ⟨w3.heap.size, 1, none⟩ = false := hblk.frozen 1
          (try dsimp only)
          simp only [dq9]
          go_simp
          have hz := hK.out undef
          simp only [dq9] at hz
          exact hz⟩))
      clear cx4aa cx4ab lx4aa lx4ab lx4ac lx4ad cx8aa cx8ab lx8aa lx8ab lx8ac lx8ad
      intro y9 w9 kq9 hbl9 lw9 how hrr hfl hds
      replace h6 := h6.keep kq9
      replace ho := ho.keep kq9
      replace hp := hp.keep kq9
      replace hkp := hkp.trans kq9
      obtain ⟨_, z9_0, ez, _⟩ := how _ (List.Mem.head _)
      obtain rfl := ez (by simp)
      dsimp only at z9_0
      obtain ⟨_, z9_1, _, ez⟩ := how _ (List.Mem.tail _ (List.Mem.head _))
      obtain ⟨b12, A12, n12, c12, rfl, h12⟩ := ez (by simp)
      dsimp only at z9_1
      obtain ⟨_, z9_2, ez, _⟩ := how _ (List.Mem.tail _ (List.Mem.tail _ (List.Mem.head _)))
      obtain rfl := ez (by simp)
      dsimp only at z9_2
      obtain ⟨_, z9_3, ez, _⟩ := how _ (List.Mem.tail _ (List.Mem.tail _ (List.Mem.tail _ (List.Mem.head _))))
      obtain rfl := ez (by simp)
      dsimp only at z9_3
      (try dsimp only)
      clear hrr hfl how hds 
      clear x1a x4a x8a x8b
      have bw9 := hbw.trans hbl9
      have cz9_1_0 : w9.cell? ⟨w3.heap.size, 0, none⟩ = some (.bool b12) := z9_1.cell 0
      have cz9_1_1 : w9.cell? ⟨w3.heap.size, 1, none⟩ = some (.slice A12 n12 c12) := z9_1.cell 1
      obtain ⟨lz9_1_0, lz9_1_1, lz9_1_2, lz9_1_3⟩ := lts0 z9_1.lt
      have cz9_2_0 : w9.cell? ⟨w7.heap.size, 0, none⟩ = some (.bool b6) := z9_2.cell 0
      have cz9_2_1 : w9.cell? ⟨w7.heap.size, 1, none⟩ = some (.slice A6 n6 c6) := z9_2.cell 1
      obtain ⟨lz9_2_0, lz9_2_1, lz9_2_2, lz9_2_3⟩ := lts0 z9_2.lt
      have cz9_3_0 : w9.cell? ⟨w7.heap.size + 1, 0, none⟩ = some (.bool bs) := z9_3.cell 0
      have cz9_3_1 : w9.cell? ⟨w7.heap.size + 1, 1, none⟩ = some (.slice As ns cs) := z9_3.cell 1
      obtain ⟨lz9_3_0, lz9_3_1, lz9_3_2, lz9_3_3⟩ := lts1 z9_3.lt
      go_wp2_with fail
      (with_reducible refine (i_mul _ bs As ns cs (((10 ^ i : Nat) : Int)) (64) ?_ b6 A6 n6 c6 ((10 : Int)) (1) ?_ ?_).mono ?_); (exact hp.iz); (exact h6.iz); (first | omega | decide | assumption); rintro e w14 ⟨b14, A14, n14, c14, rfl, h14, q14⟩
      clear cz9_1_0 cz9_1_1 lz9_1_0 lz9_1_1 lz9_1_2 lz9_1_3 cz9_2_0 cz9_2_1 lz9_2_0 lz9_2_1 lz9_2_2 lz9_2_3 cz9_3_0 cz9_3_1 lz9_3_0 lz9_3_1 lz9_3_2 lz9_3_3
      replace h6 := h6.belw q14
      replace ho := ho.belw q14
      replace hp := hp.belw q14
      replace h12 := h12.belw q14
      replace hkp := hkp.below q14
      replace z9_0 := z9_0.b q14
      replace z9_1 := z9_1.b q14
      replace z9_2 := z9_2.b q14
      replace z9_3 := z9_3.b q14
      have bw14 := bw9.trans (q14.mono bw9.size)
      have lw14 := q14.size
      clear q14 bw9
      obtain ⟨cz9_3_0, cz9_3_1⟩ := z9_3.c2
      obtain ⟨fz9_3_0, fz9_3_1⟩ := z9_3.f2
      obtain ⟨lz9_3_0, lz9_3_1, lz9_3_2, lz9_3_3⟩ := lts1 z9_3.lt
      go_wp2_with fail
      clear cz9_3_0 fz9_3_0 cz9_3_1 fz9_3_1 lz9_3_0 lz9_3_1 lz9_3_2 lz9_3_3
      have p15 := (((Kp.refl w14).sb (w7.heap.size + 1) 0 z9_3.box (by decide) (.bool b14)).sb (w7.heap.size + 1) 1 (z9_3.box.set ⟨w7.heap.size + 1, 0, none⟩ (.bool b14)) (by decide) (.slice A14 n14 c14))
      have bw15 := ((bw14.sc (w7.heap.size + 1) 0 (by omega) (.bool b14)).sc (w7.heap.size + 1) 1 (by omega) (.slice A14 n14 c14))
      replace z9_0 : Blk ((w14.setCell ⟨w7.heap.size + 1, 0, none⟩ (.bool b14)).setCell ⟨w7.heap.size + 1, 1, none⟩ (.slice A14 n14 c14)) w.heap.size 24 #[.bool false, .slice none 0 0, .slice none 0 0] := ((z9_0.fr (w7.heap.size + 1) 0 (by omega) (.bool b14)).fr (w7.heap.size + 1) 1 (by omega) (.slice A14 n14 c14))
      replace z9_1 : Blk ((w14.setCell ⟨w7.heap.size + 1, 0, none⟩ (.bool b14)).setCell ⟨w7.heap.size + 1, 1, none⟩ (.slice A14 n14 c14)) w3.heap.size 77 #[.bool b12, .slice A12 n12 c12] := ((z9_1.fr (w7.heap.size + 1) 0 (by omega) (.bool b14)).fr (w7.heap.size + 1) 1 (by omega) (.slice A14 n14 c14))
      replace z9_2 : Blk ((w14.setCell ⟨w7.heap.size + 1, 0, none⟩ (.bool b14)).setCell ⟨w7.heap.size + 1, 1, none⟩ (.slice A14 n14 c14)) w7.heap.size 77 #[.bool b6, .slice A6 n6 c6] := ((z9_2.fr (w7.heap.size + 1) 0 (by omega) (.bool b14)).fr (w7.heap.size + 1) 1 (by omega) (.slice A14 n14 c14))
      replace z9_3 : Blk ((w14.setCell ⟨w7.heap.size + 1, 0, none⟩ (.bool b14)).setCell ⟨w7.heap.size + 1, 1, none⟩ (.slice A14 n14 c14)) (w7.heap.size + 1) 77 #[.bool b14, .slice A14 n14 c14] := ((z9_3.set_at 0 (.bool b14) #[.bool b14, .slice As ns cs] (by simp)).set_at 1 (.slice A14 n14 c14) #[.bool b14, .slice A14 n14 c14] (by simp))
      have lw15 : w14.heap.size + 0 ≤ ((w14.setCell ⟨w7.heap.size + 1, 0, none⟩ (.bool b14)).setCell ⟨w7.heap.size + 1, 1, none⟩ (.slice A14 n14 c14)).heap.size := by simp
      generalize hE15 : ((w14.setCell ⟨w7.heap.size + 1, 0, none⟩ (.bool b14)).setCell ⟨w7.heap.size + 1, 1, none⟩ (.slice A14 n14 c14)) = w15 at p15 bw15 lw15 z9_0 z9_1 z9_2 z9_3 ⊢
      clear hE15
      replace h6 := h6.keep p15
      replace ho := ho.keep p15
      replace hp := hp.keep p15
      replace h12 := h12.keep p15
      replace h14 := h14.keep p15
      replace hkp := hkp.trans p15
      clear bw14
      have hN2 := h12.resz (K := 64) (by rw [HNI.out]; exact HB1.out)
      rw [HNI.out] at hN2
      have hS2 := h14.resz (K := 64) (by rw [ten_succ]; exact HB2.out)
      rw [ten_succ] at hS2
      go_roundw
      case rel => exact ⟨i + 1, b12, A12, n12, c12, b14, A14, n14, c14, by go_num, by omega, hN2, hS2, hkp, bw15, by omega, z9_0, z9_1, z9_2, z9_3⟩
      case measure => simp [intOf]; omega
    · have hiN : i = B.length := by omega
      subst hiN
      obtain ⟨cx4aa, cx4ab⟩ := x4a.c2
      obtain ⟨lx4aa, lx4ab, lx4ac, lx4ad⟩ := lts0 x4a.lt
      go_wp2_with fail
      (with_reducible refine (i_neg _ bn An nn cn (NI (X : Int) B B.length) (64) ?_ ?_).mono ?_); (exact ho.iz); (first | omega | decide | assumption); rintro e w9 ⟨b9, A9, n9, c9, rfl, h9, q9⟩
      clear cx4aa cx4ab lx4aa lx4ab lx4ac lx4ad
      replace h6 := h6.belw q9
      replace ho := ho.belw q9
      replace hp := hp.belw q9
      replace hkp := hkp.below q9
      replace x1a := x1a.b q9
      replace x4a := x4a.b q9
      replace x8a := x8a.b q9
      replace x8b := x8b.b q9
      have bw9 := hbw.trans (q9.mono hbw.size)
      have lw9 := q9.size
      clear q9
      obtain ⟨cx4aa, cx4ab⟩ := x4a.c2
      obtain ⟨fx4aa, fx4ab⟩ := x4a.f2
      obtain ⟨lx4aa, lx4ab, lx4ac, lx4ad⟩ := lts0 x4a.lt
      obtain ⟨cx8ba, cx8bb⟩ := x8b.c2
      obtain ⟨lx8ba, lx8bb, lx8bc, lx8bd⟩ := lts1 x8b.lt
      go_wp2_with fail
      clear cx4aa fx4aa cx4ab fx4ab lx4aa lx4ab lx4ac lx4ad cx8ba cx8bb lx8ba lx8bb lx8bc lx8bd
      have p10 := (((Kp.refl w9).sb w3.heap.size 0 x4a.box (by decide) (.bool b9)).sb w3.heap.size 1 (x4a.box.set ⟨w3.heap.size, 0, none⟩ (.bool b9)) (by decide) (.slice A9 n9 c9))
      have bw10 := ((bw9.sc w3.heap.size 0 (by omega) (.bool b9)).sc w3.heap.size 1 (by omega) (.slice A9 n9 c9))
      replace x1a := ((x1a.fr w3.heap.size 0 (by omega) (.bool b9)).fr w3.heap.size 1 (by omega) (.slice A9 n9 c9))
      replace x4a := ((x4a.set_at 0 (.bool b9) #[.bool b9, .slice An nn cn] (by simp)).set_at 1 (.slice A9 n9 c9) #[.bool b9, .slice A9 n9 c9] (by simp))
      replace x8a := ((x8a.fr w3.heap.size 0 (by omega) (.bool b9)).fr w3.heap.size 1 (by omega) (.slice A9 n9 c9))
      replace x8b := ((x8b.fr w3.heap.size 0 (by omega) (.bool b9)).fr w3.heap.size 1 (by omega) (.slice A9 n9 c9))
      have lw10 : w9.heap.size + 0 ≤ ((w9.setCell ⟨w3.heap.size, 0, none⟩ (.bool b9)).setCell ⟨w3.heap.size, 1, none⟩ (.slice A9 n9 c9)).heap.size := by simp
      generalize hE10 : ((w9.setCell ⟨w3.heap.size, 0, none⟩ (.bool b9)).setCell ⟨w3.heap.size, 1, none⟩ (.slice A9 n9 c9)) = w10 at p10 bw10 lw10 x1a x4a x8a x8b ⊢
      clear hE10
      replace h6 := h6.keep p10
      replace ho := ho.keep p10
      replace hp := hp.keep p10
      replace h9 := h9.keep p10
      replace hkp := hkp.trans p10
      clear bw9
      (with_reducible refine (f_form _ b9 A9 n9 c9 (-(NI (X : Int) B B.length)) ((64)) ?_ bs As ns cs (((10 ^ B.length : Nat) : Int)) (64) ?_ (decQ F B) 64 ?_ ?_ ?_ ?_).mono ?_); (exact h9.iz); (exact hp.iz); (exact ten_ne _); (exact HQ.out); (exact HSQ.out); (omega); rintro e w11 ⟨b11, A11, n11, c11, A'11, n'11, c'11, rfl, h11, q11⟩
      replace h6 := h6.belw q11
      replace ho := ho.belw q11
      replace hp := hp.belw q11
      replace h9 := h9.belw q11
      replace hkp := hkp.below q11
      replace x1a := x1a.b q11
      replace x4a := x4a.b q11
      replace x8a := x8a.b q11
      replace x8b := x8b.b q11
      have bw11 := bw10.trans (q11.mono bw10.size)
      have lw11 := q11.size
      clear q11 bw10
      obtain ⟨cx1aa, cx1ab, cx1ac⟩ := x1a.c3
      obtain ⟨fx1aa, fx1ab, fx1ac⟩ := x1a.f3
      obtain ⟨lx1aa, lx1ab, lx1ac, lx1ad⟩ := lts0 x1a.lt
      go_wp2_with fail
      refine bodyPost_ret (v := .tuple #[.agg #[.bool b11, .slice A11 n11 c11, .slice A'11 n'11 c'11], .nilIface]) (by simp [results, Tryz.results59, go_sem, *] <;> first | rfl | exact ⟨rfl, rfl⟩) rfl ?_
      exact ⟨_, _, _, _, _, _, _, rfl, (h11).keep ((((Kp.refl w11).sb w.heap.size 0 x1a.box (by decide) (.bool b11)).sb w.heap.size 1 (x1a.box.set ⟨w.heap.size, 0, none⟩ (.bool b11)) (by decide) (.slice A11 n11 c11)).sb w.heap.size 2 ((x1a.box.set ⟨w.heap.size, 0, none⟩ (.bool b11)).set ⟨w.heap.size, 1, none⟩ (.slice A11 n11 c11)) (by decide) (.slice A'11 n'11 c'11)), (((bw11.sc w.heap.size 0 (by omega) (.bool b11)).sc w.heap.size 1 (by omega) (.slice A11 n11 c11)).sc w.heap.size 2 (by omega) (.slice A'11 n'11 c'11))⟩
theorem f_dec_ok_f (w : World) (F B : List UInt8) (hFB : F.length + B.length ≤ 64) (hm : headM F = false) (ho : okZ (tailS F) = true) (hz : 0 ≤ valZ (tailS F)) (hB : B ≠ []) (ha : B.all isDg = true) :
    Calls Tryz.prog 59 #[strV F, strV B] w (RetFe w .nilIface (decQ F B) 64) := by
  have hmm : headM F = false := hm
  obtain ⟨T, hT⟩ : ∃ T, tailS F = T := ⟨_, rfl⟩
  have HM := Lib.hid hmm
  have HT := Lib.hid hT
  have hTF : T.length ≤ F.length := by rw [← hT]; exact tailS_len F
  have hT6 : T.length ≤ 65536 := by omega
  have hB6 : B.length ≤ 1000000 := by omega
  have htlB := toList_v B
  have htl1 := toList_v []
  have hszB := size_v B
  have HO := Lib.hid (show okZ T = true by rw [← hT]; exact ho)
  have hs : 0 ≤ (valZ (tailS F)).sign := sign_nn hz
  obtain ⟨s, hs1⟩ : ∃ s, (valZ T).sign = s := ⟨_, rfl⟩
  have es : (s < 0) = False := by simp; rw [← hs1, ← hT]; exact hs
  have HS := Lib.hid hs1
  have HX := Lib.hid (trim_dg.2 ha)
  obtain ⟨X, hX⟩ : ∃ X : Nat, valZ T = (X : Int) := ⟨(valZ T).toNat, by rw [← hT]; omega⟩
  obtain ⟨J, hJ, hX2⟩ : ∃ J, J ≤ T.length ∧ X < 10 ^ J := dec_lt (by rw [← hT]; exact ho) hX
  have HA := Lib.hid ha
  have HX3 := Lib.hid (And.intro hX2 (show J + B.length ≤ 64 by omega))
  have HX2 := Lib.hid hX
  have HQ := Lib.hid (show Rat.divInt (NI (X : Int) B B.length) ((10 ^ B.length : Nat) : Int) = decQ F B by
    unfold decQ decN; rw [hm, hT, hX, NI_len]; push_cast; rfl)
  have hB64 : B.length ≤ 64 := by omega
  have HSQ := Lib.hid (show Sz (decQ F B) 64 by
    rw [← HQ.out]
    exact Sz_divInt (by exact NI_lt HX3.out.1 ha (Nat.le_refl _) HX3.out.2) (ten_lt hB64) (by decide))
  clear hmm hm hT ho hs hs1 ha hz hX hX2 hJ
  obtain ⟨y, ys, hyy⟩ := List.exists_cons_of_ne_nil hB
  have hBe : ((⟨B.toArray⟩ : ByteArray) == ⟨#[]⟩) = false := by rw [hyy]; rfl
  have hBl : (B == []) = false := by rw [hyy]; rfl
  have hBp : 0 < B.length := by rw [hyy]; simp
  clear hyy
  go_enter Tryz.func59, Tryz.ntmps59
  go_wp2_with fail
  (with_reducible refine (prefix_v _ (F) false HM.out).mono ?_); rintro e w1 ⟨rfl, hb1⟩
  have q1 := ((Below.refl _ _).alloc (Nat.le_refl _) _).trans (hb1.mono (by simp))
  have x1a : Blk w1 w.heap.size 24 #[.bool false, .slice none 0 0, .slice none 0 0] := (blkAt _ _ _ (by simp)).below hb1 (by simp)
  have bw1 := (brefl w).trans (q1.mono (brefl w).size)
  have lw1 : w.heap.size + 1 ≤ w1.heap.size := by have := hb1.size; simp at this; omega
  clear q1
  go_wp2_with fail
  (with_reducible refine (tprefix_v _ (F) T HT.out).mono ?_); rintro e w2 ⟨rfl, q2⟩
  replace x1a := x1a.b q2
  have bw2 := bw1.trans (q2.mono bw1.size)
  have lw2 := q2.size
  clear q2 bw1
  go_wp2_with fail
  (with_reducible refine (i_parse_ok _ (T) (by omega) HO.out).mono ?_); rintro e w3 ⟨b3, A3, n3, c3, rfl, h3, q3⟩
  replace x1a := x1a.b q3
  have bw3 := bw2.trans (q3.mono bw2.size)
  have lw3 := q3.size
  clear q3 bw2
  go_wp2_with fail
  (with_reducible refine (i_sign_e _ b3 A3 n3 c3 (valZ T) (T.length) ?_ (s) ?_ ?_).mono ?_); (exact (h3.belw ((Below.refl _ _).alloc (Nat.le_refl _) _)).iz); (exact HS.out); (omega); rintro e w4 ⟨rfl, hb4⟩
  have q4 := ((Below.refl _ _).alloc (Nat.le_refl _) _).trans (hb4.mono (by simp))
  replace h3 := h3.belw q4
  replace x1a := x1a.b q4
  have x4a : Blk w4 w3.heap.size 77 #[.bool b3, .slice A3 n3 c3] := (blkAt _ _ _ (by simp)).below hb4 (by simp)
  have bw4 := bw3.trans (q4.mono bw3.size)
  have lw4 : w3.heap.size + 1 ≤ w4.heap.size := by have := hb4.size; simp at this; omega
  clear q4 bw3
  go_wp2_with fail
  (with_reducible refine (trim_v _ (B) ([]) (by omega) HX.out).mono ?_); rintro e w5 ⟨rfl, q5⟩
  replace h3 := h3.belw q5
  replace x1a := x1a.b q5
  replace x4a := x4a.b q5
  have bw5 := bw4.trans (q5.mono bw4.size)
  have lw5 := q5.size
  clear q5 bw4
  go_wp2_with fail
  (with_reducible refine (i_of1 _ (10) ?_ ?_).mono ?_); (first | omega | decide | assumption); (first | omega | decide | assumption); rintro e w6 ⟨b6, A6, n6, c6, rfl, h6, q6⟩
  replace h3 := h3.belw q6
  replace x1a := x1a.b q6
  replace x4a := x4a.b q6
  have bw6 := bw5.trans (q6.mono bw5.size)
  have lw6 := q6.size
  clear q6 bw5
  go_wp2_with fail
  (with_reducible refine (f_one _).mono ?_); rintro e w7 ⟨b7, A7, n7, c7, rfl, h7, q7⟩
  replace h3 := h3.belw q7
  replace h6 := h6.belw q7
  replace x1a := x1a.b q7
  replace x4a := x4a.b q7
  have bw7 := bw6.trans (q7.mono bw6.size)
  have lw7 := q7.size
  clear q7 bw6
  go_wp2_with fail
  have p8 := (((Kp.refl w7).alloc (.cells #[.bool b6, .slice A6 n6 c6] 77)).alloc (.cells #[.bool b7, .slice A7 n7 c7] 77))
  have bw8 := ((bw7.alloc (by first | omega | (simp <;> omega)) (.cells #[.bool b6, .slice A6 n6 c6] 77)).alloc (by first | omega | (simp <;> omega)) (.cells #[.bool b7, .slice A7 n7 c7] 77))
  have x8a : Blk ((w7.alloc (.cells #[.bool b6, .slice A6 n6 c6] 77)).alloc (.cells #[.bool b7, .slice A7 n7 c7] 77)) w7.heap.size 77 #[.bool b6, .slice A6 n6 c6] := ((blkAt _ _ _ (by simp)).alloc (.cells #[.bool b7, .slice A7 n7 c7] 77))
  have x8b : Blk ((w7.alloc (.cells #[.bool b6, .slice A6 n6 c6] 77)).alloc (.cells #[.bool b7, .slice A7 n7 c7] 77)) (w7.heap.size + 1) 77 #[.bool b7, .slice A7 n7 c7] := (blkAt _ _ _ (by simp))
  replace x1a := ((x1a.alloc (.cells #[.bool b6, .slice A6 n6 c6] 77)).alloc (.cells #[.bool b7, .slice A7 n7 c7] 77))
  replace x4a := ((x4a.alloc (.cells #[.bool b6, .slice A6 n6 c6] 77)).alloc (.cells #[.bool b7, .slice A7 n7 c7] 77))
  have lw8 : w7.heap.size + 2 ≤ ((w7.alloc (.cells #[.bool b6, .slice A6 n6 c6] 77)).alloc (.cells #[.bool b7, .slice A7 n7 c7] 77)).heap.size := by simp
  generalize hE8 : ((w7.alloc (.cells #[.bool b6, .slice A6 n6 c6] 77)).alloc (.cells #[.bool b7, .slice A7 n7 c7] 77)) = w8 at p8 bw8 lw8 x8a x8b x1a x4a ⊢
  clear hE8
  replace h3 := h3.keep p8
  replace h6 := h6.keep p8
  replace h7 := h7.keep p8
  clear bw7
  go_loopw [43] (fun iv wr => ∃ (i : Nat) (bn : Bool) (An : Option Addr) (nn cn : Nat) (bs : Bool) (As : Option Addr) (ns cs : Nat), iv = .int .i64 (i : Nat) ∧ i ≤ B.length ∧ IV wr bn An nn cn (NI (X : Int) B i) 64 ∧ IV wr bs As ns cs ((10 ^ i : Nat) : Int) 64 ∧ Kp w8 wr ∧ Below w.heap.size w wr ∧ w8.heap.size ≤ wr.heap.size ∧ Blk wr w.heap.size 24 #[.bool false, .slice none 0 0, .slice none 0 0] ∧ Blk wr w3.heap.size 77 #[.bool bn, .slice An nn cn] ∧ Blk wr w7.heap.size 77 #[.bool b6, .slice A6 n6 c6] ∧ Blk wr (w7.heap.size + 1) 77 #[.bool bs, .slice As ns cs]) (fun iv _ => B.length - (intOf iv).toNat)
  case atStart => exact ⟨0, b3, A3, n3, c3, b7, A7, n7, c7, rfl, Nat.zero_le _, (by rw [NI_zero, ← HX2.out]; exact h3.mono (by omega)), (by rw [show ((10 ^ 0 : Nat) : Int) = 1 from rfl]; exact h7.mono (by omega)), Kp.refl _, bw8, Nat.le_refl _, x1a, x4a, x8a, x8b⟩
  case round =>
    clear x1a
    clear x4a
    clear x8a
    clear x8b
    obtain ⟨i, bn, An, nn, cn, bs, As, ns, cs, rfl, hi, ho, hp, hkp, hbw, hlw, x1a, x4a, x8a, x8b⟩ := hrel
    replace h3 := h3.keep hkp
    replace h6 := h6.keep hkp
    replace h7 := h7.keep hkp
    by_cases hlt : i < B.length
    · obtain ⟨d, hd⟩ : ∃ d, B[i] = d := ⟨_, rfl⟩
      have hdg : isDg d = true := List.all_eq_true.1 HA.out d (by rw [← hd]; exact List.getElem_mem _)
      have hget : ∀ h, (⟨B.toArray⟩ : ByteArray)[i]'h = d := fun h => hd
      have h8 : 48 ≤ d.toNat ∧ d.toNat ≤ 57 := by unfold isDg at hdg; rw [Bool.and_eq_true, decide_eq_true_eq, decide_eq_true_eq] at hdg; exact hdg
      obtain ⟨dn, hdn⟩ : ∃ dn, d.toNat = dn := ⟨_, rfl⟩
      obtain ⟨v, hv⟩ : ∃ v, dn - 48 = v := ⟨_, rfl⟩
      rw [hdn] at h8
      have e1 : (dn : Int) - 48 = (v : Int) := by omega
      have hv9 : v ≤ 9 := by omega
      have h81 := h8.1
      have h82 := h8.2
      have HD : dval d = v := by unfold dval; rw [hdn]; exact hv
      have HNI := Lib.hid (show NI (X : Int) B i * 10 + (v : Nat) = NI (X : Int) B (i + 1) by rw [← NI_succ _ _ _ hlt, hd, HD])
      have HB1 := Lib.hid (NI_lt HX3.out.1 HA.out (show i + 1 ≤ B.length by omega) HX3.out.2)
      have HB2 := Lib.hid (ten_lt (i := i + 1) (by omega))
      have hw8 : IntKind.u8.wrap (v : Int) = (v : Int) := IntWalk.u8_in _ ⟨by omega, by omega⟩
      have hw64 : IntKind.i64.wrap (v : Int) = (v : Int) := IntWalk.i64_in _ ⟨by omega, by omega⟩
      have hi0 : (0 : Int) ≤ (i : Int) := by omega
      have hiL : (i : Int) < (B.length : Int) := by omega
      clear hd hdg h8 hv HD
      obtain ⟨cx4aa, cx4ab⟩ := x4a.c2
      obtain ⟨lx4aa, lx4ab, lx4ac, lx4ad⟩ := lts0 x4a.lt
      obtain ⟨cx8aa, cx8ab⟩ := x8a.c2
      obtain ⟨lx8aa, lx8ab, lx8ac, lx8ad⟩ := lts0 x8a.lt
      go_wp2_with fail
      refine wp_region_lin (B := w.heap.size) (fr := fun xf => ⟨List.toArray (strV T :: strV B :: undef :: undef :: .pointer (some ⟨w.heap.size, 0, none⟩) :: .nilIface :: .bool false :: .pointer (some ⟨w3.heap.size, 0, none⟩) :: .nilIface :: .pointer (some ⟨w7.heap.size, 0, none⟩) :: .pointer (some ⟨w7.heap.size + 1, 0, none⟩) :: .int .i64 (i : Nat) :: strV F :: .bool false :: strV F :: strV T :: .tuple #[.agg #[.bool b3, .slice A3 n3 c3], .nilIface] :: strV T :: .tuple #[.agg #[.bool b3, .slice A3 n3 c3], .nilIface] :: .agg #[.bool b3, .slice A3 n3 c3] :: .nilIface :: .nilIface :: .bool false :: .bool false :: .agg #[.bool b3, .slice A3 n3 c3] :: .int .i64 s :: .bool false :: .bool false :: .bool false :: strV B :: .bool false :: .bool false :: .bool false :: strV B :: strV [] :: .bool false :: .bool false :: undef :: undef :: .agg #[.bool b6, .slice A6 n6 c6] :: .agg #[.bool b7, .slice A7 n7 c7] :: strV B :: .int .i64 (B.length : Nat) :: .int .i64 (i : Nat) :: .bool true :: .int .i64 (i : Nat) :: xf 0 :: xf 1 :: xf 2 :: xf 3 :: xf 4 :: xf 5 :: xf 6 :: xf 7 :: xf 8 :: xf 9 :: u56 :: u57 :: u58 :: u59 :: undef :: undef :: undef :: undef :: undef :: undef :: []), []⟩) (R := fun ri => List.getD ((PEq (.agg #[.bool bn, .slice An nn cn])) :: (PEq (.agg #[.bool b6, .slice A6 n6 c6])) :: (VI ((NI (X : Int) B i) * ((10 : Int))) ((64) + (1))) :: (PEq (strV B)) :: (PEq (.int .i64 (i : Nat))) :: (PEq (.int .u8 (dn : Nat))) :: (PEq (.int .u8 (v : Nat))) :: (PEq (.int .i64 (v : Nat))) :: (VI (((v : Nat) : Int)) (1)) :: (VI (((NI (X : Int) B i) * ((10 : Int))) + (((v : Nat) : Int))) (((64) + (1)) + (1) + 1)) :: PAny :: []) ri (fun _ _ => True)) (es := []) (ow := [⟨w.heap.size, 11, 0, 24, #[.bool false, .slice none 0 0, .slice none 0 0], CAny⟩, ⟨w3.heap.size, 10, 0, 77, #[.bool bn, .slice An nn cn], CI (((NI (X : Int) B i) * ((10 : Int))) + (((v : Nat) : Int))) (((64) + (1)) + (1) + 1)⟩, ⟨w7.heap.size, 11, 0, 77, #[.bool b6, .slice A6 n6 c6], CAny⟩, ⟨w7.heap.size + 1, 11, 0, 77, #[.bool bs, .slice As ns cs], CAny⟩]) (x0 := (upd (upd (upd (upd (upd (upd (upd (upd (upd (upd (fun _ => undef) 0 (u46)) 1 (u47)) 2 (u48)) 3 (u49)) 4 (u50)) 5 (u51)) 6 (u52)) 7 (u53)) 8 (u54)) 9 (u55))) (by kernel_rfl)
        (each_of ⟨fun _ _ => rfl, fun _ _ => rfl, fun _ _ => rfl, fun _ _ => rfl, fun _ _ => rfl, fun _ _ => rfl, fun _ _ => rfl, fun _ _ => rfl, fun _ _ => rfl, fun _ _ => rfl, fun _ _ => rfl, trivial⟩) (each_of (acyc_from _ 0 (by kernel_rfl))) (AllStab.get _ ⟨stEq _, stEq _, stI _ _, stEq _, stEq _, stEq _, stEq _, stEq _, stI _ _, stI _ _, stAny, trivial⟩)
        (fun _ h => nomatch h) (List.forall_mem_cons.2 ⟨scAny, List.forall_mem_cons.2 ⟨scI _ _, List.forall_mem_cons.2 ⟨scAny, List.forall_mem_cons.2 ⟨scAny, fun _ h => nomatch h⟩⟩⟩⟩) (fun _ h => nomatch h) hbw.size
        (List.forall_mem_cons.2 ⟨⟨x1a, by show w.heap.size ≤ w.heap.size; omega⟩, List.forall_mem_cons.2 ⟨⟨x4a, by show w.heap.size ≤ w3.heap.size; omega⟩, List.forall_mem_cons.2 ⟨⟨x8a, by show w.heap.size ≤ w7.heap.size; omega⟩, List.forall_mem_cons.2 ⟨⟨x8b, by show w.heap.size ≤ w7.heap.size + 1; omega⟩, fun _ h => nomatch h⟩⟩⟩⟩) (ownDist (by simp <;> omega))
        (each_of ⟨?_, ?_, ?_, ?_, ?_, ?_, ?_, ?_, ?_, ?_, ?_, trivial⟩) ?_
      · exact .inl ⟨by simp, by simp, fun xf wq hk hbl hd K hK => by
          have y : Blk wq w3.heap.size 77 #[.bool bn, .slice An nn cn] := hbl _ (List.Mem.tail _ (List.Mem.head _)) (by simp [Region.binds])
          obtain ⟨hcl0, hcl1⟩ := y.c2
          (try dsimp only)
          go_simp
          exact hK.out (.agg #[.bool bn, .slice An nn cn]) _ rfl (brefl _)⟩
      · exact .inl ⟨by simp, by simp, fun xf wq hk hbl hd K hK => by
          have y : Blk wq w7.heap.size 77 #[.bool b6, .slice A6 n6 c6] := hbl _ (List.Mem.tail _ (List.Mem.tail _ (List.Mem.head _))) (by simp [Region.binds])
          obtain ⟨hcl0, hcl1⟩ := y.c2
          (try dsimp only)
          go_simp
          exact hK.out (.agg #[.bool b6, .slice A6 n6 c6]) _ rfl (brefl _)⟩
      · exact .inl ⟨by simp, by simp, fun xf wq hk hbl hd K hK => by
          have dq0 : xf 0 = .agg #[.bool bn, .slice An nn cn] := hd ⟨0, .data⟩ (by simp) rfl
          have dq1 : xf 1 = .agg #[.bool b6, .slice A6 n6 c6] := hd ⟨1, .data⟩ (by simp) rfl
          (try dsimp only); (try simp only [dq0, dq1])
          go_simp
          go_at_call 50
          (with_reducible refine (i_mul _ bn An nn cn (NI (X : Int) B i) (64) ?_ b6 A6 n6 c6 ((10 : Int)) (1) ?_ ?_).mono ?_); (exact (ho.keep hk).iz); (exact (h6.keep hk).iz); (first | omega | decide | assumption); rintro e wr ⟨b10, A10, n10, c10, rfl, h10, hbr⟩
          have hz := hK.out _ _ ⟨b10, A10, n10, c10, rfl, h10⟩ hbr
          simp only [dq0, dq1] at hz
          exact hz⟩
      · exact .inl ⟨by simp, by simp, fun xf wq hk hbl hd K hK => by
          (try dsimp only)
          go_simp
          exact hK.out (strV B) _ rfl (brefl _)⟩
      · exact .inl ⟨by simp, by simp, fun xf wq hk hbl hd K hK => by
          (try dsimp only)
          go_simp
          exact hK.out (.int .i64 (i : Nat)) _ rfl (brefl _)⟩
      · exact .inl ⟨by simp, by simp, fun xf wq hk hbl hd K hK => by
          have dq3 : xf 3 = strV B := hd ⟨3, .data⟩ (by simp) rfl
          have dq4 : xf 4 = .int .i64 (i : Nat) := hd ⟨4, .data⟩ (by simp) rfl
          (try dsimp only); (try simp only [dq3, dq4])
          go_simp
          have hz := hK.out (.int .u8 (dn : Nat)) _ rfl (brefl _)
          simp only [dq3, dq4] at hz
          exact hz⟩
      · exact .inl ⟨by simp, by simp, fun xf wq hk hbl hd K hK => by
          have dq5 : xf 5 = .int .u8 (dn : Nat) := hd ⟨5, .data⟩ (by simp) rfl
          (try dsimp only); (try simp only [dq5])
          go_simp
          have hz := hK.out (.int .u8 (v : Nat)) _ rfl (brefl _)
          simp only [dq5] at hz
          exact hz⟩
      · exact .inl ⟨by simp, by simp, fun xf wq hk hbl hd K hK => by
          have dq6 : xf 6 = .int .u8 (v : Nat) := hd ⟨6, .data⟩ (by simp) rfl
          (try dsimp only); (try simp only [dq6])
          go_simp
          have hz := hK.out (.int .i64 (v : Nat)) _ rfl (brefl _)
          simp only [dq6] at hz
          exact hz⟩
      · exact .inl ⟨by simp, by simp, fun xf wq hk hbl hd K hK => by
          have dq7 : xf 7 = .int .i64 (v : Nat) := hd ⟨7, .data⟩ (by simp) rfl
          (try dsimp only); (try simp only [dq7])
          go_simp
          go_at_call 53
          (with_reducible refine (i_of1 _ ((v : Nat)) ?_ ?_).mono ?_); (first | omega | decide | assumption); (first | omega | decide | assumption); rintro e wr ⟨b11, A11, n11, c11, rfl, h11, hbr⟩
          have hz := hK.out _ _ ⟨b11, A11, n11, c11, rfl, h11⟩ hbr
          simp only [dq7] at hz
          exact hz⟩
      · exact .inl ⟨by simp, by simp, fun xf wq hk hbl hd K hK => by
          obtain ⟨b10, A10, n10, c10, dq2, h10⟩ : VI ((NI (X : Int) B i) * ((10 : Int))) ((64) + (1)) (xf 2) wq := hd ⟨2, .data⟩ (by simp) rfl
          obtain ⟨b11, A11, n11, c11, dq8, h11⟩ : VI (((v : Nat) : Int)) (1) (xf 8) wq := hd ⟨8, .data⟩ (by simp) rfl
          (try dsimp only); (try simp only [dq2, dq8])
          go_simp
          go_at_call 52
          (with_reducible refine (i_add _ b10 A10 n10 c10 ((NI (X : Int) B i) * ((10 : Int))) ((64) + (1)) ?_ b11 A11 n11 c11 (((v : Nat) : Int)) (1) ?_ ?_).mono ?_); (exact h10.iz); (exact h11.iz); (first | omega | decide | assumption); rintro e wr ⟨b12, A12, n12, c12, rfl, h12, hbr⟩
          have hz := hK.out _ _ ⟨b12, A12, n12, c12, rfl, h12⟩ hbr
          simp only [dq2, dq8] at hz
          exact hz⟩
      · exact .inr (.inr (.inr ⟨⟨w3.heap.size, 10, 0, 77, #[.bool bn, .slice An nn cn], CI (((NI (X : Int) B i) * ((10 : Int))) + (((v : Nat) : Int))) (((64) + (1)) + (1) + 1)⟩, by simp, rfl, by simp, by simp, (show KT 77 = false by decide), fun _ _ => True.intro, fun xf wq hblk hd => by
          obtain ⟨b12, A12, n12, c12, dq9, h12⟩ : VI (((NI (X : Int) B i) * ((10 : Int))) + (((v : Nat) : Int))) (((64) + (1)) + (1) + 1) (xf 9) wq := hd ⟨9, .data⟩ (by simp) rfl
          dsimp only at hblk
          refine ⟨[.bool b12, .slice A12 n12 c12], fun w' hk => ⟨b12, A12, n12, c12, rfl, h12.keep hk⟩, fun K hK => ?_⟩
          have hc0 : wq.cell? ⟨w3.heap.size, 0, none⟩ = some (.bool bn) := hblk.cell 0
          have hc1 : wq.cell? ⟨w3.heap.size, 1, none⟩ = some (.slice An nn cn) := hblk.cell 1
          have hf0 : wq.frozen? ⟨w3.heap.size, 0, none⟩ = false := hblk.frozen 0
          have hf1 : wq.frozen? ⟨w3.heap.size, 1, none⟩ = false := hblk.frozen 1
          (try dsimp only)
          simp only [dq9]
          go_simp
          have hz := hK.out undef
          simp only [dq9] at hz
          exact hz⟩))
      clear cx4aa cx4ab lx4aa lx4ab lx4ac lx4ad cx8aa cx8ab lx8aa lx8ab lx8ac lx8ad
      intro y9 w9 kq9 hbl9 lw9 how hrr hfl hds
      replace h6 := h6.keep kq9
      replace ho := ho.keep kq9
      replace hp := hp.keep kq9
      replace hkp := hkp.trans kq9
      obtain ⟨_, z9_0, ez, _⟩ := how _ (List.Mem.head _)
      obtain rfl := ez (by simp)
      dsimp only at z9_0
      obtain ⟨_, z9_1, _, ez⟩ := how _ (List.Mem.tail _ (List.Mem.head _))
      obtain ⟨b12, A12, n12, c12, rfl, h12⟩ := ez (by simp)
      dsimp only at z9_1
      obtain ⟨_, z9_2, ez, _⟩ := how _ (List.Mem.tail _ (List.Mem.tail _ (List.Mem.head _)))
      obtain rfl := ez (by simp)
      dsimp only at z9_2
      obtain ⟨_, z9_3, ez, _⟩ := how _ (List.Mem.tail _ (List.Mem.tail _ (List.Mem.tail _ (List.Mem.head _))))
      obtain rfl := ez (by simp)
      dsimp only at z9_3
      (try dsimp only)
      clear hrr hfl how hds 
      clear x1a x4a x8a x8b
      have bw9 := hbw.trans hbl9
      obtain ⟨cz9_1_0, cz9_1_1⟩ := z9_1.c2
      obtain ⟨lz9_1_0, lz9_1_1, lz9_1_2, lz9_1_3⟩ := lts0 z9_1.lt
      obtain ⟨cz9_2_0, cz9_2_1⟩ := z9_2.c2
      obtain ⟨lz9_2_0, lz9_2_1, lz9_2_2, lz9_2_3⟩ := lts0 z9_2.lt
      obtain ⟨cz9_3_0, cz9_3_1⟩ := z9_3.c2
      obtain ⟨lz9_3_0, lz9_3_1, lz9_3_2, lz9_3_3⟩ := lts1 z9_3.lt
      go_wp2_with fail
      (with_reducible refine (i_mul _ bs As ns cs (((10 ^ i : Nat) : Int)) (64) ?_ b6 A6 n6 c6 ((10 : Int)) (1) ?_ ?_).mono ?_); (exact hp.iz); (exact h6.iz); (first | omega | decide | assumption); rintro e w14 ⟨b14, A14, n14, c14, rfl, h14, q14⟩
      clear cz9_1_0 cz9_1_1 lz9_1_0 lz9_1_1 lz9_1_2 lz9_1_3 cz9_2_0 cz9_2_1 lz9_2_0 lz9_2_1 lz9_2_2 lz9_2_3 cz9_3_0 cz9_3_1 lz9_3_0 lz9_3_1 lz9_3_2 lz9_3_3
      replace h6 := h6.belw q14
      replace ho := ho.belw q14
      replace hp := hp.belw q14
      replace h12 := h12.belw q14
      replace hkp := hkp.below q14
      replace z9_0 := z9_0.b q14
      replace z9_1 := z9_1.b q14
      replace z9_2 := z9_2.b q14
      replace z9_3 := z9_3.b q14
      have bw14 := bw9.trans (q14.mono bw9.size)
      have lw14 := q14.size
      clear q14 bw9
      obtain ⟨cz9_3_0, cz9_3_1⟩ := z9_3.c2
      obtain ⟨fz9_3_0, fz9_3_1⟩ := z9_3.f2
      obtain ⟨lz9_3_0, lz9_3_1, lz9_3_2, lz9_3_3⟩ := lts1 z9_3.lt
      go_wp2_with fail
      clear cz9_3_0 fz9_3_0 cz9_3_1 fz9_3_1 lz9_3_0 lz9_3_1 lz9_3_2 lz9_3_3
      have p15 := (((Kp.refl w14).sb (w7.heap.size + 1) 0 z9_3.box (by decide) (.bool b14)).sb (w7.heap.size + 1) 1 (z9_3.box.set ⟨w7.heap.size + 1, 0, none⟩ (.bool b14)) (by decide) (.slice A14 n14 c14))
      have bw15 := ((bw14.sc (w7.heap.size + 1) 0 (by omega) (.bool b14)).sc (w7.heap.size + 1) 1 (by omega) (.slice A14 n14 c14))
      replace z9_0 : Blk ((w14.setCell ⟨w7.heap.size + 1, 0, none⟩ (.bool b14)).setCell ⟨w7.heap.size + 1, 1, none⟩ (.slice A14 n14 c14)) w.heap.size 24 #[.bool false, .slice none 0 0, .slice none 0 0] := ((z9_0.fr (w7.heap.size + 1) 0 (by omega) (.bool b14)).fr (w7.heap.size + 1) 1 (by omega) (.slice A14 n14 c14))
      replace z9_1 : Blk ((w14.setCell ⟨w7.heap.size + 1, 0, none⟩ (.bool b14)).setCell ⟨w7.heap.size + 1, 1, none⟩ (.slice A14 n14 c14)) w3.heap.size 77 #[.bool b12, .slice A12 n12 c12] := ((z9_1.fr (w7.heap.size + 1) 0 (by omega) (.bool b14)).fr (w7.heap.size + 1) 1 (by omega) (.slice A14 n14 c14))
      replace z9_2 : Blk ((w14.setCell ⟨w7.heap.size + 1, 0, none⟩ (.bool b14)).setCell ⟨w7.heap.size + 1, 1, none⟩ (.slice A14 n14 c14)) w7.heap.size 77 #[.bool b6, .slice A6 n6 c6] := ((z9_2.fr (w7.heap.size + 1) 0 (by omega) (.bool b14)).fr (w7.heap.size + 1) 1 (by omega) (.slice A14 n14 c14))
      replace z9_3 : Blk ((w14.setCell ⟨w7.heap.size + 1, 0, none⟩ (.bool b14)).setCell ⟨w7.heap.size + 1, 1, none⟩ (.slice A14 n14 c14)) (w7.heap.size + 1) 77 #[.bool b14, .slice A14 n14 c14] := ((z9_3.set_at 0 (.bool b14) #[.bool b14, .slice As ns cs] (by simp)).set_at 1 (.slice A14 n14 c14) #[.bool b14, .slice A14 n14 c14] (by simp))
      have lw15 : w14.heap.size + 0 ≤ ((w14.setCell ⟨w7.heap.size + 1, 0, none⟩ (.bool b14)).setCell ⟨w7.heap.size + 1, 1, none⟩ (.slice A14 n14 c14)).heap.size := by simp
      generalize hE15 : ((w14.setCell ⟨w7.heap.size + 1, 0, none⟩ (.bool b14)).setCell ⟨w7.heap.size + 1, 1, none⟩ (.slice A14 n14 c14)) = w15 at p15 bw15 lw15 z9_0 z9_1 z9_2 z9_3 ⊢
      clear hE15
      replace h6 := h6.keep p15
      replace ho := ho.keep p15
      replace hp := hp.keep p15
      replace h12 := h12.keep p15
      replace h14 := h14.keep p15
      replace hkp := hkp.trans p15
      clear bw14
      have hN2 := h12.resz (K := 64) (by rw [HNI.out]; exact HB1.out)
      rw [HNI.out] at hN2
      have hS2 := h14.resz (K := 64) (by rw [ten_succ]; exact HB2.out)
      rw [ten_succ] at hS2
      go_roundw
      case rel => exact ⟨i + 1, b12, A12, n12, c12, b14, A14, n14, c14, by go_num, by omega, hN2, hS2, hkp, bw15, by omega, z9_0, z9_1, z9_2, z9_3⟩
      case measure => simp [intOf]; omega
    · have hiN : i = B.length := by omega
      subst hiN
      obtain ⟨cx4aa, cx4ab⟩ := x4a.c2
      obtain ⟨lx4aa, lx4ab, lx4ac, lx4ad⟩ := lts0 x4a.lt
      obtain ⟨cx8ba, cx8bb⟩ := x8b.c2
      obtain ⟨lx8ba, lx8bb, lx8bc, lx8bd⟩ := lts1 x8b.lt
      go_wp2_with fail
      (with_reducible refine (f_form _ bn An nn cn (NI (X : Int) B B.length) (64) ?_ bs As ns cs (((10 ^ B.length : Nat) : Int)) (64) ?_ (decQ F B) 64 ?_ ?_ ?_ ?_).mono ?_); (exact ho.iz); (exact hp.iz); (exact ten_ne _); (exact HQ.out); (exact HSQ.out); (omega); rintro e w9 ⟨b9, A9, n9, c9, A'9, n'9, c'9, rfl, h9, q9⟩
      clear cx4aa cx4ab lx4aa lx4ab lx4ac lx4ad cx8ba cx8bb lx8ba lx8bb lx8bc lx8bd
      replace h6 := h6.belw q9
      replace ho := ho.belw q9
      replace hp := hp.belw q9
      replace hkp := hkp.below q9
      replace x1a := x1a.b q9
      replace x4a := x4a.b q9
      replace x8a := x8a.b q9
      replace x8b := x8b.b q9
      have bw9 := hbw.trans (q9.mono hbw.size)
      have lw9 := q9.size
      clear q9
      obtain ⟨cx1aa, cx1ab, cx1ac⟩ := x1a.c3
      obtain ⟨fx1aa, fx1ab, fx1ac⟩ := x1a.f3
      obtain ⟨lx1aa, lx1ab, lx1ac, lx1ad⟩ := lts0 x1a.lt
      go_wp2_with fail
      refine bodyPost_ret (v := .tuple #[.agg #[.bool b9, .slice A9 n9 c9, .slice A'9 n'9 c'9], .nilIface]) (by simp [results, Tryz.results59, go_sem, *] <;> first | rfl | exact ⟨rfl, rfl⟩) rfl ?_
      exact ⟨_, _, _, _, _, _, _, rfl, (h9).keep ((((Kp.refl w9).sb w.heap.size 0 x1a.box (by decide) (.bool b9)).sb w.heap.size 1 (x1a.box.set ⟨w.heap.size, 0, none⟩ (.bool b9)) (by decide) (.slice A9 n9 c9)).sb w.heap.size 2 ((x1a.box.set ⟨w.heap.size, 0, none⟩ (.bool b9)).set ⟨w.heap.size, 1, none⟩ (.slice A9 n9 c9)) (by decide) (.slice A'9 n'9 c'9)), (((bw9.sc w.heap.size 0 (by omega) (.bool b9)).sc w.heap.size 1 (by omega) (.slice A9 n9 c9)).sc w.heap.size 2 (by omega) (.slice A'9 n'9 c'9))⟩
end Go.Proofs.YtianjkiakkclgaaGreatDoor
