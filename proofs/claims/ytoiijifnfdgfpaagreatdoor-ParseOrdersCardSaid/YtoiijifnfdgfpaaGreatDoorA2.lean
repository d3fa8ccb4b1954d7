/- Part A2: lemmas and walks that the claim rests on. No claim is made here. -/
import Derived.Deep.DeepCutAuto
import Derived.Deep.RegionHeld3
import Derived.Deep.DrawnRows
import Derived.Laws.OwnMore
import Derived.Deep.AppendLies
import Derived.Deep.RegionHeld
import Derived.Lib.ItoaNum
import Derived.Lib.ItoaMem
import Derived.Lib.Repeat
import Derived.Lib.Join
import Derived.Lib.Atoi
import Derived.Lib.SlTrimSet
import Derived.Lib.AppendIntMem
import Derived.Shelf.Strings.SlTrimAscii
import Derived.WalkSpells
import Derived.BigQuiet
import Derived.Lib.IndexMore
import Derived.Test.YtoiijifnfdgfpaaGreatDoorA1
set_option linter.unusedVariables false
set_option maxHeartbeats 8000000
set_option maxRecDepth 100000
/- Walks: fractions in lowest terms. -/
namespace Go.Proofs.YtoiijifnfdgfpaaGreatDoor
open Go Go.RowKit Bn
attribute [local go_sem ↓] Go.wp_at_zero Go.wp_at_succ
theorem int_q (i : Int) : Rat.divInt i 1 = (i : Rat) := by have := q_eq (i : Rat); simpa using this.symm
theorem sign3 (z : Int) : z = 0 ∨ z.sign = 1 ∨ z.sign = -1 := by
  rcases Int.lt_trichotomy z 0 with h | h | h
  · exact .inr (.inr (Int.sign_eq_neg_one_of_neg h))
  · exact .inl h
  · exact .inr (.inl (Int.sign_eq_one_of_pos h))
theorem sign_pos {z : Int} (h : z.sign = 1) : 0 < z := Int.sign_eq_one_iff_pos.1 h
theorem sign_neg_ {z : Int} (h : z.sign = -1) : 0 < -z := by have := Int.sign_eq_neg_one_iff_neg.1 h; omega
theorem sign_ne {z : Int} (h : z.sign = -1) : z ≠ 0 := by rintro rfl; cases h
theorem gcd_ne {a b : Int} (h : 0 < b) : ((Nat.gcd a.natAbs b.natAbs : Nat) : Int) ≠ 0 := by
  have : 0 < Nat.gcd a.natAbs b.natAbs := Nat.gcd_pos_of_pos_right _ (by omega)
  omega
theorem wh_div {a : Int} (g : Nat) (h : 0 < a) : (wh (a / (g : Int))).mag = digs (a.natAbs / g) := by
  have e : (a / (g : Int)) = ((a.natAbs / g : Nat) : Int) := by
    rw [Int.natCast_ediv, Int.natAbs_of_nonneg (by omega)]
  rw [e]; rfl
theorem form_pos {z d : Int} {q : Rat} (hz : z.sign = 1) (hd : 0 < d) (hq : Rat.divInt z d = q) :
    (rd q).num = (wh (z / ((Nat.gcd z.natAbs d.natAbs : Nat) : Int))).mag ∧ (rd q).den = (wh (d / ((Nat.gcd z.natAbs d.natAbs : Nat) : Int))).mag ∧ (rd q).neg = false := by
  have hp := sign_pos hz
  rw [← hq, rd_divInt (by omega) hd, wh_div _ hp, wh_div _ hd]
  exact ⟨rfl, rfl, by simp; omega⟩
theorem form_neg {z d : Int} {q : Rat} (hz : z.sign = -1) (hd : 0 < d) (hq : Rat.divInt z d = q) :
    (rd q).num = (wh (-z / ((Nat.gcd z.natAbs d.natAbs : Nat) : Int))).mag ∧ (rd q).den = (wh (d / ((Nat.gcd z.natAbs d.natAbs : Nat) : Int))).mag ∧ (rd q).neg = true := by
  have hp := sign_neg_ hz
  rw [← hq, rd_divInt (by omega) hd, wh_div _ hp, wh_div _ hd, Int.natAbs_neg]
  exact ⟨rfl, rfl, by simp; omega⟩
theorem i_sign_e (w : World) (b : Bool) (A : Option Addr) (n c : Nat) (z : Int) (k : Nat) (h : IZ w b A n c z k) (s : Int) (hs : z.sign = s) (hk : k ≤ 1000000000) : Calls Tryz.prog 77 #[.agg #[.bool b, .slice A n c]] w (RetV w (.int .i64 s)) := by
  subst hs; exact i_sign w b A n c z k h hk
theorem f_form_0 (w : World) (b : Bool) (A : Option Addr) (n c : Nat) (z : Int) (k : Nat) (h : IZ w b A n c z k) (b' : Bool) (A' : Option Addr) (n' c' : Nat) (z' : Int) (k' : Nat) (h' : IZ w b' A' n' c' z' k') (K : Nat) (hz : z = 0) (hk : k + k' ≤ 300000000) :
  Calls Tryz.prog 78 #[.agg #[.bool b, .slice A n c], .agg #[.bool b', .slice A' n' c']] w (RetF w 0 K) := by
 have HZ := Lib.hid (show z.sign = 0 by rw [hz]; rfl)
 clear hz
 go_enter Tryz.func78, Tryz.ntmps78
 go_wp2_with fail
 (with_reducible refine (i_sign_e _ b A n c (z) (k) ?_ (0) ?_ ?_).mono ?_); (exact (h.belw ((((Below.refl _ _).alloc (Nat.le_refl _) _).alloc (by simp) _).alloc (by simp <;> omega) _))); (exact HZ.out); (omega); rintro e w1 ⟨rfl, hb1⟩
 have q1 := ((((Below.refl _ _).alloc (Nat.le_refl _) _).alloc (by simp) _).alloc (by simp <;> omega) _).trans (hb1.mono (by simp <;> omega))
 replace h := h.belw q1
 replace h' := h'.belw q1
 have x1a : Blk w1 w.heap.size 123 #[.bool b, .slice A n c] := (((blkAt _ _ _ (by simp)).alloc _).alloc _).below hb1 (by simp <;> omega)
 have x1b := ((blkAt _ _ _ (g := w.heap.size + 1) (by simp)).alloc _).below hb1 (by simp <;> omega)
 have x1c := (blkAt _ _ _ (g := w.heap.size + 1 + 1) (by simp)).below hb1 (by simp)
 have bw1 := (brefl w).trans (q1.mono (brefl w).size)
 have lw1 : w.heap.size + 3 ≤ w1.heap.size := by have := hb1.size; simp at this; omega
 clear q1
 obtain ⟨cx1ca, cx1cb, cx1cc⟩ := x1c.c3
 obtain ⟨fx1ca, fx1cb, fx1cc⟩ := x1c.f3
 obtain ⟨lx1ca, lx1cb, lx1cc, lx1cd⟩ := lts2 x1c.lt
 go_wp2_with fail
 refine bodyPost_ret (v := .agg #[.bool false, .slice none 0 0, .slice none 0 0]) (by simp [results, Tryz.results78, go_sem, *] <;> first | rfl | exact ⟨rfl, rfl⟩) rfl ?_
 exact ⟨false, none, 0, 0, none, 0, 0, rfl, QV.zero _ _, (((bw1.sc (w.heap.size + 1 + 1) 0 (by omega) (.bool false)).sc (w.heap.size + 1 + 1) 1 (by omega) (.slice none 0 0)).sc (w.heap.size + 1 + 1) 2 (by omega) (.slice none 0 0))⟩
theorem f_form_pp (w : World) (b : Bool) (A : Option Addr) (n c : Nat) (z : Int) (k : Nat) (h : IZ w b A n c z k) (b' : Bool) (A' : Option Addr) (n' c' : Nat) (z' : Int) (k' : Nat) (h' : IZ w b' A' n' c' z' k') (q : Rat) (K : Nat) (hz : z.sign = 1) (hd : z'.sign = 1) (hq : Rat.divInt z z' = q) (hs : Sz q K) (hk : k + k' ≤ 300000000) :
  Calls Tryz.prog 78 #[.agg #[.bool b, .slice A n c], .agg #[.bool b', .slice A' n' c']] w (RetF w q K) := by
 have HZ := Lib.hid hz
 have HD := Lib.hid hd
 have HN := Lib.hid (show (z).sign = 1 by exact hz)
 have HP := Lib.hid (show 0 < z' by exact sign_pos hd)
 have HG := Lib.hid (show ((Nat.gcd (z).natAbs (z').natAbs : Nat) : Int) ≠ 0 from gcd_ne HP.out)
 have HQ := Lib.hid (show Rat.divInt z z' = q by exact hq)
 have HS := Lib.hid hs
 clear hz hd hq hs
 go_enter Tryz.func78, Tryz.ntmps78
 go_wp2_with fail
 (with_reducible refine (i_sign_e _ b A n c (z) (k) ?_ (1) ?_ ?_).mono ?_); (exact (h.belw ((((Below.refl _ _).alloc (Nat.le_refl _) _).alloc (by simp) _).alloc (by simp <;> omega) _))); (exact HZ.out); (omega); rintro e w1 ⟨rfl, hb1⟩
 have q1 := ((((Below.refl _ _).alloc (Nat.le_refl _) _).alloc (by simp) _).alloc (by simp <;> omega) _).trans (hb1.mono (by simp <;> omega))
 replace h := h.belw q1
 replace h' := h'.belw q1
 have x1a : Blk w1 w.heap.size 123 #[.bool b, .slice A n c] := (((blkAt _ _ _ (by simp)).alloc _).alloc _).below hb1 (by simp <;> omega)
 have x1b := ((blkAt _ _ _ (g := w.heap.size + 1) (by simp)).alloc _).below hb1 (by simp <;> omega)
 have x1c := (blkAt _ _ _ (g := w.heap.size + 1 + 1) (by simp)).below hb1 (by simp)
 have bw1 := (brefl w).trans (q1.mono (brefl w).size)
 have lw1 : w.heap.size + 3 ≤ w1.heap.size := by have := hb1.size; simp at this; omega
 clear q1
 obtain ⟨cx1ba, cx1bb⟩ := x1b.c2
 obtain ⟨lx1ba, lx1bb, lx1bc, lx1bd⟩ := lts1 x1b.lt
 go_wp2_with fail
 (with_reducible refine (i_sign_e _ b' A' n' c' (z') (k') ?_ (1) ?_ ?_).mono ?_); (exact h'); (exact HD.out); (omega); rintro e w2 ⟨rfl, q2⟩
 clear cx1ba cx1bb lx1ba lx1bb lx1bc lx1bd
 replace h := h.belw q2
 replace h' := h'.belw q2
 replace x1a := x1a.b q2
 replace x1b := x1b.b q2
 replace x1c := x1c.b q2
 have bw2 := bw1.trans (q2.mono bw1.size)
 have lw2 := q2.size
 clear q2 bw1
 obtain ⟨cx1aa, cx1ab⟩ := x1a.c2
 obtain ⟨lx1aa, lx1ab, lx1ac, lx1ad⟩ := lts0 x1a.lt
 obtain ⟨cx1ba, cx1bb⟩ := x1b.c2
 obtain ⟨lx1ba, lx1bb, lx1bc, lx1bd⟩ := lts1 x1b.lt
 go_wp2_with fail
 (with_reducible refine (i_gcd _ b A n c (z) (k) ?_ b' A' n' c' (z') (k') ?_ ?_).mono ?_); (exact h); (exact h'); (first | omega | decide | assumption); rintro e w3 ⟨b3, A3, n3, c3, rfl, h3, q3⟩
 clear cx1aa cx1ab lx1aa lx1ab lx1ac lx1ad cx1ba cx1bb lx1ba lx1bb lx1bc lx1bd
 replace h := h.belw q3
 replace h' := h'.belw q3
 replace x1a := x1a.b q3
 replace x1b := x1b.b q3
 replace x1c := x1c.b q3
 have bw3 := bw2.trans (q3.mono bw2.size)
 have lw3 := q3.size
 clear q3 bw2
 obtain ⟨cx1aa, cx1ab⟩ := x1a.c2
 obtain ⟨lx1aa, lx1ab, lx1ac, lx1ad⟩ := lts0 x1a.lt
 go_wp2_with fail
 (with_reducible refine (i_sign_e _ b A n c (z) (k) ?_ (1) ?_ ?_).mono ?_); (exact (h.belw ((Below.refl _ _).alloc (Nat.le_refl _) _))); (exact HN.out); (omega); rintro e w4 ⟨rfl, hb4⟩
 clear cx1aa cx1ab lx1aa lx1ab lx1ac lx1ad
 have q4 := ((Below.refl _ _).alloc (Nat.le_refl _) _).trans (hb4.mono (by simp))
 replace h := h.belw q4
 replace h' := h'.belw q4
 replace h3 := h3.belw q4
 replace x1a := x1a.b q4
 replace x1b := x1b.b q4
 replace x1c := x1c.b q4
 have x4a : Blk w4 w3.heap.size 123 #[.bool b3, .slice A3 n3 c3] := (blkAt _ _ _ (by simp)).below hb4 (by simp)
 have bw4 := bw3.trans (q4.mono bw3.size)
 have lw4 : w3.heap.size + 1 ≤ w4.heap.size := by have := hb4.size; simp at this; omega
 clear q4 bw3
 obtain ⟨cx1aa, cx1ab⟩ := x1a.c2
 obtain ⟨lx1aa, lx1ab, lx1ac, lx1ad⟩ := lts0 x1a.lt
 obtain ⟨cx4aa, cx4ab⟩ := x4a.c2
 obtain ⟨lx4aa, lx4ab, lx4ac, lx4ad⟩ := lts0 x4a.lt
 go_wp2_with fail
 (with_reducible refine (i_div _ b A n c (z) (k) ?_ b3 A3 n3 c3 ((Nat.gcd ((z)).natAbs ((z')).natAbs : Nat)) ((k) + (k')) ?_  ?_ ?_).mono ?_); (exact h); (exact h3.iz); (omega); (exact HG.out); rintro e w5 ⟨b5, A5, n5, c5, b'5, A'5, n'5, c'5, rfl, h5, h'5, q5⟩
 clear cx1aa cx1ab lx1aa lx1ab lx1ac lx1ad cx4aa cx4ab lx4aa lx4ab lx4ac lx4ad
 replace h := h.belw q5
 replace h' := h'.belw q5
 replace h3 := h3.belw q5
 replace x1a := x1a.b q5
 replace x1b := x1b.b q5
 replace x1c := x1c.b q5
 replace x4a := x4a.b q5
 have bw5 := bw4.trans (q5.mono bw4.size)
 have lw5 := q5.size
 clear q5 bw4
 obtain ⟨cx1aa, cx1ab⟩ := x1a.c2
 obtain ⟨fx1aa, fx1ab⟩ := x1a.f2
 obtain ⟨lx1aa, lx1ab, lx1ac, lx1ad⟩ := lts0 x1a.lt
 obtain ⟨cx1ba, cx1bb⟩ := x1b.c2
 obtain ⟨lx1ba, lx1bb, lx1bc, lx1bd⟩ := lts1 x1b.lt
 obtain ⟨cx4aa, cx4ab⟩ := x4a.c2
 obtain ⟨lx4aa, lx4ab, lx4ac, lx4ad⟩ := lts0 x4a.lt
 go_wp2_with fail
 clear cx1aa fx1aa cx1ab fx1ab lx1aa lx1ab lx1ac lx1ad cx1ba cx1bb lx1ba lx1bb lx1bc lx1bd cx4aa cx4ab lx4aa lx4ab lx4ac lx4ad
 have p6 := (((Kp.refl w5).sb w.heap.size 0 x1a.box (by decide) (.bool b5)).sb w.heap.size 1 (x1a.box.set ⟨w.heap.size, 0, none⟩ (.bool b5)) (by decide) (.slice A5 n5 c5))
 have bw6 := ((bw5.sc w.heap.size 0 (by omega) (.bool b5)).sc w.heap.size 1 (by omega) (.slice A5 n5 c5))
 replace x1a := ((x1a.set_at 0 (.bool b5) #[.bool b5, .slice A n c] (by simp)).set_at 1 (.slice A5 n5 c5) #[.bool b5, .slice A5 n5 c5] (by simp))
 replace x1b := ((x1b.fr w.heap.size 0 (by omega) (.bool b5)).fr w.heap.size 1 (by omega) (.slice A5 n5 c5))
 replace x1c := ((x1c.fr w.heap.size 0 (by omega) (.bool b5)).fr w.heap.size 1 (by omega) (.slice A5 n5 c5))
 replace x4a := ((x4a.fr w.heap.size 0 (by omega) (.bool b5)).fr w.heap.size 1 (by omega) (.slice A5 n5 c5))
 have lw6 : w5.heap.size + 0 ≤ ((w5.setCell ⟨w.heap.size, 0, none⟩ (.bool b5)).setCell ⟨w.heap.size, 1, none⟩ (.slice A5 n5 c5)).heap.size := by simp
 generalize hE6 : ((w5.setCell ⟨w.heap.size, 0, none⟩ (.bool b5)).setCell ⟨w.heap.size, 1, none⟩ (.slice A5 n5 c5)) = w6 at p6 bw6 lw6 x1a x1b x1c x4a ⊢
 clear hE6
 replace h := h.keep p6
 replace h' := h'.keep p6
 replace h3 := h3.keep p6
 replace h5 := h5.keep p6
 replace h'5 := h'5.keep p6
 clear bw5
 (with_reducible refine (i_div _ b' A' n' c' (z') (k') ?_ b3 A3 n3 c3 ((Nat.gcd ((z)).natAbs ((z')).natAbs : Nat)) ((k) + (k')) ?_  ?_ ?_).mono ?_); (exact h'); (exact h3.iz); (omega); (exact HG.out); rintro e w7 ⟨b7, A7, n7, c7, b'7, A'7, n'7, c'7, rfl, h7, h'7, q7⟩
 replace h := h.belw q7
 replace h' := h'.belw q7
 replace h3 := h3.belw q7
 replace h5 := h5.belw q7
 replace h'5 := h'5.belw q7
 replace x1a := x1a.b q7
 replace x1b := x1b.b q7
 replace x1c := x1c.b q7
 replace x4a := x4a.b q7
 have bw7 := bw6.trans (q7.mono bw6.size)
 have lw7 := q7.size
 clear q7 bw6
 obtain ⟨cx1aa, cx1ab⟩ := x1a.c2
 obtain ⟨lx1aa, lx1ab, lx1ac, lx1ad⟩ := lts0 x1a.lt
 obtain ⟨cx1ba, cx1bb⟩ := x1b.c2
 obtain ⟨fx1ba, fx1bb⟩ := x1b.f2
 obtain ⟨lx1ba, lx1bb, lx1bc, lx1bd⟩ := lts1 x1b.lt
 obtain ⟨cx1ca, cx1cb, cx1cc⟩ := x1c.c3
 obtain ⟨fx1ca, fx1cb, fx1cc⟩ := x1c.f3
 obtain ⟨lx1ca, lx1cb, lx1cc, lx1cd⟩ := lts2 x1c.lt
 go_wp2_with fail
 refine bodyPost_ret (v := .agg #[.bool false, .slice A5 n5 c5, .slice A7 n7 c7]) (by simp [results, Tryz.results78, go_sem, *] <;> first | rfl | exact ⟨rfl, rfl⟩) rfl ?_
 obtain ⟨e1, e2, e3⟩ := form_pos HN.out HP.out HQ.out
 exact ⟨_, _, _, _, _, _, _, rfl, QV.mk_ (by rw [e1]; exact h5.2.1.keep ((((((Kp.refl w7).sb (w.heap.size + 1) 0 x1b.box (by decide) (.bool b7)).sb (w.heap.size + 1) 1 (x1b.box.set ⟨w.heap.size + 1, 0, none⟩ (.bool b7)) (by decide) (.slice A7 n7 c7)).sb (w.heap.size + 1 + 1) 0 ((x1c.box.set ⟨w.heap.size + 1, 0, none⟩ (.bool b7)).set ⟨w.heap.size + 1, 1, none⟩ (.slice A7 n7 c7)) (by decide) (.bool false)).sb (w.heap.size + 1 + 1) 1 (((x1c.box.set ⟨w.heap.size + 1, 0, none⟩ (.bool b7)).set ⟨w.heap.size + 1, 1, none⟩ (.slice A7 n7 c7)).set ⟨w.heap.size + 1 + 1, 0, none⟩ (.bool false)) (by decide) (.slice A5 n5 c5)).sb (w.heap.size + 1 + 1) 2 ((((x1c.box.set ⟨w.heap.size + 1, 0, none⟩ (.bool b7)).set ⟨w.heap.size + 1, 1, none⟩ (.slice A7 n7 c7)).set ⟨w.heap.size + 1 + 1, 0, none⟩ (.bool false)).set ⟨w.heap.size + 1 + 1, 1, none⟩ (.slice A5 n5 c5)) (by decide) (.slice A7 n7 c7))) (by rw [e2]; exact h7.2.1.keep ((((((Kp.refl w7).sb (w.heap.size + 1) 0 x1b.box (by decide) (.bool b7)).sb (w.heap.size + 1) 1 (x1b.box.set ⟨w.heap.size + 1, 0, none⟩ (.bool b7)) (by decide) (.slice A7 n7 c7)).sb (w.heap.size + 1 + 1) 0 ((x1c.box.set ⟨w.heap.size + 1, 0, none⟩ (.bool b7)).set ⟨w.heap.size + 1, 1, none⟩ (.slice A7 n7 c7)) (by decide) (.bool false)).sb (w.heap.size + 1 + 1) 1 (((x1c.box.set ⟨w.heap.size + 1, 0, none⟩ (.bool b7)).set ⟨w.heap.size + 1, 1, none⟩ (.slice A7 n7 c7)).set ⟨w.heap.size + 1 + 1, 0, none⟩ (.bool false)) (by decide) (.slice A5 n5 c5)).sb (w.heap.size + 1 + 1) 2 ((((x1c.box.set ⟨w.heap.size + 1, 0, none⟩ (.bool b7)).set ⟨w.heap.size + 1, 1, none⟩ (.slice A7 n7 c7)).set ⟨w.heap.size + 1 + 1, 0, none⟩ (.bool false)).set ⟨w.heap.size + 1 + 1, 1, none⟩ (.slice A5 n5 c5)) (by decide) (.slice A7 n7 c7))) e3 HS.out, (((((bw7.sc (w.heap.size + 1) 0 (by omega) (.bool b7)).sc (w.heap.size + 1) 1 (by omega) (.slice A7 n7 c7)).sc (w.heap.size + 1 + 1) 0 (by omega) (.bool false)).sc (w.heap.size + 1 + 1) 1 (by omega) (.slice A5 n5 c5)).sc (w.heap.size + 1 + 1) 2 (by omega) (.slice A7 n7 c7))⟩
theorem f_form_pn (w : World) (b : Bool) (A : Option Addr) (n c : Nat) (z : Int) (k : Nat) (h : IZ w b A n c z k) (b' : Bool) (A' : Option Addr) (n' c' : Nat) (z' : Int) (k' : Nat) (h' : IZ w b' A' n' c' z' k') (q : Rat) (K : Nat) (hz : z.sign = -1) (hd : z'.sign = 1) (hq : Rat.divInt z z' = q) (hs : Sz q K) (hk : k + k' ≤ 300000000) :
  Calls Tryz.prog 78 #[.agg #[.bool b, .slice A n c], .agg #[.bool b', .slice A' n' c']] w (RetF w q K) := by
 have HZ := Lib.hid hz
 have HD := Lib.hid hd
 have HN := Lib.hid (show (z).sign = -1 by exact hz)
 have HP := Lib.hid (show 0 < z' by exact sign_pos hd)
 have HG := Lib.hid (show ((Nat.gcd (z).natAbs (z').natAbs : Nat) : Int) ≠ 0 from gcd_ne HP.out)
 have HQ := Lib.hid (show Rat.divInt z z' = q by exact hq)
 have HS := Lib.hid hs
 clear hz hd hq hs
 go_enter Tryz.func78, Tryz.ntmps78
 go_wp2_with fail
 (with_reducible refine (i_sign_e _ b A n c (z) (k) ?_ (-1) ?_ ?_).mono ?_); (exact (h.belw ((((Below.refl _ _).alloc (Nat.le_refl _) _).alloc (by simp) _).alloc (by simp <;> omega) _))); (exact HZ.out); (omega); rintro e w1 ⟨rfl, hb1⟩
 have q1 := ((((Below.refl _ _).alloc (Nat.le_refl _) _).alloc (by simp) _).alloc (by simp <;> omega) _).trans (hb1.mono (by simp <;> omega))
 replace h := h.belw q1
 replace h' := h'.belw q1
 have x1a : Blk w1 w.heap.size 123 #[.bool b, .slice A n c] := (((blkAt _ _ _ (by simp)).alloc _).alloc _).below hb1 (by simp <;> omega)
 have x1b := ((blkAt _ _ _ (g := w.heap.size + 1) (by simp)).alloc _).below hb1 (by simp <;> omega)
 have x1c := (blkAt _ _ _ (g := w.heap.size + 1 + 1) (by simp)).below hb1 (by simp)
 have bw1 := (brefl w).trans (q1.mono (brefl w).size)
 have lw1 : w.heap.size + 3 ≤ w1.heap.size := by have := hb1.size; simp at this; omega
 clear q1
 obtain ⟨cx1ba, cx1bb⟩ := x1b.c2
 obtain ⟨lx1ba, lx1bb, lx1bc, lx1bd⟩ := lts1 x1b.lt
 go_wp2_with fail
 (with_reducible refine (i_sign_e _ b' A' n' c' (z') (k') ?_ (1) ?_ ?_).mono ?_); (exact h'); (exact HD.out); (omega); rintro e w2 ⟨rfl, q2⟩
 clear cx1ba cx1bb lx1ba lx1bb lx1bc lx1bd
 replace h := h.belw q2
 replace h' := h'.belw q2
 replace x1a := x1a.b q2
 replace x1b := x1b.b q2
 replace x1c := x1c.b q2
 have bw2 := bw1.trans (q2.mono bw1.size)
 have lw2 := q2.size
 clear q2 bw1
 obtain ⟨cx1aa, cx1ab⟩ := x1a.c2
 obtain ⟨lx1aa, lx1ab, lx1ac, lx1ad⟩ := lts0 x1a.lt
 obtain ⟨cx1ba, cx1bb⟩ := x1b.c2
 obtain ⟨lx1ba, lx1bb, lx1bc, lx1bd⟩ := lts1 x1b.lt
 go_wp2_with fail
 (with_reducible refine (i_gcd _ b A n c (z) (k) ?_ b' A' n' c' (z') (k') ?_ ?_).mono ?_); (exact h); (exact h'); (first | omega | decide | assumption); rintro e w3 ⟨b3, A3, n3, c3, rfl, h3, q3⟩
 clear cx1aa cx1ab lx1aa lx1ab lx1ac lx1ad cx1ba cx1bb lx1ba lx1bb lx1bc lx1bd
 replace h := h.belw q3
 replace h' := h'.belw q3
 replace x1a := x1a.b q3
 replace x1b := x1b.b q3
 replace x1c := x1c.b q3
 have bw3 := bw2.trans (q3.mono bw2.size)
 have lw3 := q3.size
 clear q3 bw2
 obtain ⟨cx1aa, cx1ab⟩ := x1a.c2
 obtain ⟨lx1aa, lx1ab, lx1ac, lx1ad⟩ := lts0 x1a.lt
 go_wp2_with fail
 (with_reducible refine (i_sign_e _ b A n c (z) (k) ?_ (-1) ?_ ?_).mono ?_); (exact (h.belw ((Below.refl _ _).alloc (Nat.le_refl _) _))); (exact HN.out); (omega); rintro e w4 ⟨rfl, hb4⟩
 clear cx1aa cx1ab lx1aa lx1ab lx1ac lx1ad
 have q4 := ((Below.refl _ _).alloc (Nat.le_refl _) _).trans (hb4.mono (by simp))
 replace h := h.belw q4
 replace h' := h'.belw q4
 replace h3 := h3.belw q4
 replace x1a := x1a.b q4
 replace x1b := x1b.b q4
 replace x1c := x1c.b q4
 have x4a : Blk w4 w3.heap.size 123 #[.bool b3, .slice A3 n3 c3] := (blkAt _ _ _ (by simp)).below hb4 (by simp)
 have bw4 := bw3.trans (q4.mono bw3.size)
 have lw4 : w3.heap.size + 1 ≤ w4.heap.size := by have := hb4.size; simp at this; omega
 clear q4 bw3
 obtain ⟨cx1aa, cx1ab⟩ := x1a.c2
 obtain ⟨lx1aa, lx1ab, lx1ac, lx1ad⟩ := lts0 x1a.lt
 go_wp2_with fail
 (with_reducible refine (i_neg _ b A n c (z) (k) ?_ ?_).mono ?_); (exact h); (first | omega | decide | assumption); rintro e w5 ⟨b5, A5, n5, c5, rfl, h5, q5⟩
 clear cx1aa cx1ab lx1aa lx1ab lx1ac lx1ad
 replace h := h.belw q5
 replace h' := h'.belw q5
 replace h3 := h3.belw q5
 replace x1a := x1a.b q5
 replace x1b := x1b.b q5
 replace x1c := x1c.b q5
 replace x4a := x4a.b q5
 have bw5 := bw4.trans (q5.mono bw4.size)
 have lw5 := q5.size
 clear q5 bw4
 obtain ⟨cx1aa, cx1ab⟩ := x1a.c2
 obtain ⟨fx1aa, fx1ab⟩ := x1a.f2
 obtain ⟨lx1aa, lx1ab, lx1ac, lx1ad⟩ := lts0 x1a.lt
 obtain ⟨cx4aa, cx4ab⟩ := x4a.c2
 obtain ⟨lx4aa, lx4ab, lx4ac, lx4ad⟩ := lts0 x4a.lt
 go_wp2_with fail
 clear cx1aa fx1aa cx1ab fx1ab lx1aa lx1ab lx1ac lx1ad cx4aa cx4ab lx4aa lx4ab lx4ac lx4ad
 have p6 := (((Kp.refl w5).sb w.heap.size 0 x1a.box (by decide) (.bool b5)).sb w.heap.size 1 (x1a.box.set ⟨w.heap.size, 0, none⟩ (.bool b5)) (by decide) (.slice A5 n5 c5))
 have bw6 := ((bw5.sc w.heap.size 0 (by omega) (.bool b5)).sc w.heap.size 1 (by omega) (.slice A5 n5 c5))
 replace x1a := ((x1a.set_at 0 (.bool b5) #[.bool b5, .slice A n c] (by simp)).set_at 1 (.slice A5 n5 c5) #[.bool b5, .slice A5 n5 c5] (by simp))
 replace x1b := ((x1b.fr w.heap.size 0 (by omega) (.bool b5)).fr w.heap.size 1 (by omega) (.slice A5 n5 c5))
 replace x1c := ((x1c.fr w.heap.size 0 (by omega) (.bool b5)).fr w.heap.size 1 (by omega) (.slice A5 n5 c5))
 replace x4a := ((x4a.fr w.heap.size 0 (by omega) (.bool b5)).fr w.heap.size 1 (by omega) (.slice A5 n5 c5))
 have lw6 : w5.heap.size + 0 ≤ ((w5.setCell ⟨w.heap.size, 0, none⟩ (.bool b5)).setCell ⟨w.heap.size, 1, none⟩ (.slice A5 n5 c5)).heap.size := by simp
 generalize hE6 : ((w5.setCell ⟨w.heap.size, 0, none⟩ (.bool b5)).setCell ⟨w.heap.size, 1, none⟩ (.slice A5 n5 c5)) = w6 at p6 bw6 lw6 x1a x1b x1c x4a ⊢
 clear hE6
 replace h := h.keep p6
 replace h' := h'.keep p6
 replace h3 := h3.keep p6
 replace h5 := h5.keep p6
 clear bw5
 (with_reducible refine (i_div _ b5 A5 n5 c5 (-(z)) ((k)) ?_ b3 A3 n3 c3 ((Nat.gcd ((z)).natAbs ((z')).natAbs : Nat)) ((k) + (k')) ?_  ?_ ?_).mono ?_); (exact h5.iz); (exact h3.iz); (omega); (exact HG.out); rintro e w7 ⟨b7, A7, n7, c7, b'7, A'7, n'7, c'7, rfl, h7, h'7, q7⟩
 replace h := h.belw q7
 replace h' := h'.belw q7
 replace h3 := h3.belw q7
 replace h5 := h5.belw q7
 replace x1a := x1a.b q7
 replace x1b := x1b.b q7
 replace x1c := x1c.b q7
 replace x4a := x4a.b q7
 have bw7 := bw6.trans (q7.mono bw6.size)
 have lw7 := q7.size
 clear q7 bw6
 obtain ⟨cx1aa, cx1ab⟩ := x1a.c2
 obtain ⟨fx1aa, fx1ab⟩ := x1a.f2
 obtain ⟨lx1aa, lx1ab, lx1ac, lx1ad⟩ := lts0 x1a.lt
 obtain ⟨cx1ba, cx1bb⟩ := x1b.c2
 obtain ⟨lx1ba, lx1bb, lx1bc, lx1bd⟩ := lts1 x1b.lt
 obtain ⟨cx4aa, cx4ab⟩ := x4a.c2
 obtain ⟨lx4aa, lx4ab, lx4ac, lx4ad⟩ := lts0 x4a.lt
 go_wp2_with fail
 clear cx1aa fx1aa cx1ab fx1ab lx1aa lx1ab lx1ac lx1ad cx1ba cx1bb lx1ba lx1bb lx1bc lx1bd cx4aa cx4ab lx4aa lx4ab lx4ac lx4ad
 have p8 := (((Kp.refl w7).sb w.heap.size 0 x1a.box (by decide) (.bool b7)).sb w.heap.size 1 (x1a.box.set ⟨w.heap.size, 0, none⟩ (.bool b7)) (by decide) (.slice A7 n7 c7))
 have bw8 := ((bw7.sc w.heap.size 0 (by omega) (.bool b7)).sc w.heap.size 1 (by omega) (.slice A7 n7 c7))
 replace x1a := ((x1a.set_at 0 (.bool b7) #[.bool b7, .slice A5 n5 c5] (by simp)).set_at 1 (.slice A7 n7 c7) #[.bool b7, .slice A7 n7 c7] (by simp))
 replace x1b := ((x1b.fr w.heap.size 0 (by omega) (.bool b7)).fr w.heap.size 1 (by omega) (.slice A7 n7 c7))
 replace x1c := ((x1c.fr w.heap.size 0 (by omega) (.bool b7)).fr w.heap.size 1 (by omega) (.slice A7 n7 c7))
 replace x4a := ((x4a.fr w.heap.size 0 (by omega) (.bool b7)).fr w.heap.size 1 (by omega) (.slice A7 n7 c7))
 have lw8 : w7.heap.size + 0 ≤ ((w7.setCell ⟨w.heap.size, 0, none⟩ (.bool b7)).setCell ⟨w.heap.size, 1, none⟩ (.slice A7 n7 c7)).heap.size := by simp
 generalize hE8 : ((w7.setCell ⟨w.heap.size, 0, none⟩ (.bool b7)).setCell ⟨w.heap.size, 1, none⟩ (.slice A7 n7 c7)) = w8 at p8 bw8 lw8 x1a x1b x1c x4a ⊢
 clear hE8
 replace h := h.keep p8
 replace h' := h'.keep p8
 replace h3 := h3.keep p8
 replace h5 := h5.keep p8
 replace h7 := h7.keep p8
 replace h'7 := h'7.keep p8
 clear bw7
 (with_reducible refine (i_div _ b' A' n' c' (z') (k') ?_ b3 A3 n3 c3 ((Nat.gcd ((z)).natAbs ((z')).natAbs : Nat)) ((k) + (k')) ?_  ?_ ?_).mono ?_); (exact h'); (exact h3.iz); (omega); (exact HG.out); rintro e w9 ⟨b9, A9, n9, c9, b'9, A'9, n'9, c'9, rfl, h9, h'9, q9⟩
 replace h := h.belw q9
 replace h' := h'.belw q9
 replace h3 := h3.belw q9
 replace h5 := h5.belw q9
 replace h7 := h7.belw q9
 replace h'7 := h'7.belw q9
 replace x1a := x1a.b q9
 replace x1b := x1b.b q9
 replace x1c := x1c.b q9
 replace x4a := x4a.b q9
 have bw9 := bw8.trans (q9.mono bw8.size)
 have lw9 := q9.size
 clear q9 bw8
 obtain ⟨cx1aa, cx1ab⟩ := x1a.c2
 obtain ⟨lx1aa, lx1ab, lx1ac, lx1ad⟩ := lts0 x1a.lt
 obtain ⟨cx1ba, cx1bb⟩ := x1b.c2
 obtain ⟨fx1ba, fx1bb⟩ := x1b.f2
 obtain ⟨lx1ba, lx1bb, lx1bc, lx1bd⟩ := lts1 x1b.lt
 obtain ⟨cx1ca, cx1cb, cx1cc⟩ := x1c.c3
 obtain ⟨fx1ca, fx1cb, fx1cc⟩ := x1c.f3
 obtain ⟨lx1ca, lx1cb, lx1cc, lx1cd⟩ := lts2 x1c.lt
 go_wp2_with fail
 refine bodyPost_ret (v := .agg #[.bool true, .slice A7 n7 c7, .slice A9 n9 c9]) (by simp [results, Tryz.results78, go_sem, *] <;> first | rfl | exact ⟨rfl, rfl⟩) rfl ?_
 obtain ⟨e1, e2, e3⟩ := form_neg HN.out HP.out HQ.out
 exact ⟨_, _, _, _, _, _, _, rfl, QV.mk_ (by rw [e1]; exact h7.2.1.keep ((((((Kp.refl w9).sb (w.heap.size + 1) 0 x1b.box (by decide) (.bool b9)).sb (w.heap.size + 1) 1 (x1b.box.set ⟨w.heap.size + 1, 0, none⟩ (.bool b9)) (by decide) (.slice A9 n9 c9)).sb (w.heap.size + 1 + 1) 0 ((x1c.box.set ⟨w.heap.size + 1, 0, none⟩ (.bool b9)).set ⟨w.heap.size + 1, 1, none⟩ (.slice A9 n9 c9)) (by decide) (.bool true)).sb (w.heap.size + 1 + 1) 1 (((x1c.box.set ⟨w.heap.size + 1, 0, none⟩ (.bool b9)).set ⟨w.heap.size + 1, 1, none⟩ (.slice A9 n9 c9)).set ⟨w.heap.size + 1 + 1, 0, none⟩ (.bool true)) (by decide) (.slice A7 n7 c7)).sb (w.heap.size + 1 + 1) 2 ((((x1c.box.set ⟨w.heap.size + 1, 0, none⟩ (.bool b9)).set ⟨w.heap.size + 1, 1, none⟩ (.slice A9 n9 c9)).set ⟨w.heap.size + 1 + 1, 0, none⟩ (.bool true)).set ⟨w.heap.size + 1 + 1, 1, none⟩ (.slice A7 n7 c7)) (by decide) (.slice A9 n9 c9))) (by rw [e2]; exact h9.2.1.keep ((((((Kp.refl w9).sb (w.heap.size + 1) 0 x1b.box (by decide) (.bool b9)).sb (w.heap.size + 1) 1 (x1b.box.set ⟨w.heap.size + 1, 0, none⟩ (.bool b9)) (by decide) (.slice A9 n9 c9)).sb (w.heap.size + 1 + 1) 0 ((x1c.box.set ⟨w.heap.size + 1, 0, none⟩ (.bool b9)).set ⟨w.heap.size + 1, 1, none⟩ (.slice A9 n9 c9)) (by decide) (.bool true)).sb (w.heap.size + 1 + 1) 1 (((x1c.box.set ⟨w.heap.size + 1, 0, none⟩ (.bool b9)).set ⟨w.heap.size + 1, 1, none⟩ (.slice A9 n9 c9)).set ⟨w.heap.size + 1 + 1, 0, none⟩ (.bool true)) (by decide) (.slice A7 n7 c7)).sb (w.heap.size + 1 + 1) 2 ((((x1c.box.set ⟨w.heap.size + 1, 0, none⟩ (.bool b9)).set ⟨w.heap.size + 1, 1, none⟩ (.slice A9 n9 c9)).set ⟨w.heap.size + 1 + 1, 0, none⟩ (.bool true)).set ⟨w.heap.size + 1 + 1, 1, none⟩ (.slice A7 n7 c7)) (by decide) (.slice A9 n9 c9))) e3 HS.out, (((((bw9.sc (w.heap.size + 1) 0 (by omega) (.bool b9)).sc (w.heap.size + 1) 1 (by omega) (.slice A9 n9 c9)).sc (w.heap.size + 1 + 1) 0 (by omega) (.bool true)).sc (w.heap.size + 1 + 1) 1 (by omega) (.slice A7 n7 c7)).sc (w.heap.size + 1 + 1) 2 (by omega) (.slice A9 n9 c9))⟩
theorem f_form_np (w : World) (b : Bool) (A : Option Addr) (n c : Nat) (z : Int) (k : Nat) (h : IZ w b A n c z k) (b' : Bool) (A' : Option Addr) (n' c' : Nat) (z' : Int) (k' : Nat) (h' : IZ w b' A' n' c' z' k') (q : Rat) (K : Nat) (hz : z.sign = 1) (hd : z'.sign = -1) (hq : Rat.divInt z z' = q) (hs : Sz q K) (hk : k + k' ≤ 300000000) :
  Calls Tryz.prog 78 #[.agg #[.bool b, .slice A n c], .agg #[.bool b', .slice A' n' c']] w (RetF w q K) := by
 have HZ := Lib.hid hz
 have HD := Lib.hid hd
 have HN := Lib.hid (show ((-z)).sign = -1 by rw [Int.sign_neg, hz] <;> rfl)
 have HP := Lib.hid (show 0 < (-z') by exact sign_neg_ hd)
 have HG := Lib.hid (show ((Nat.gcd ((-z)).natAbs ((-z')).natAbs : Nat) : Int) ≠ 0 from gcd_ne HP.out)
 have HQ := Lib.hid (show Rat.divInt (-z) (-z') = q by rw [divInt_neg_neg _ _ (sign_ne hd)]; exact hq)
 have HS := Lib.hid hs
 clear hz hd hq hs
 go_enter Tryz.func78, Tryz.ntmps78
 go_wp2_with fail
 (with_reducible refine (i_sign_e _ b A n c (z) (k) ?_ (1) ?_ ?_).mono ?_); (exact (h.belw ((((Below.refl _ _).alloc (Nat.le_refl _) _).alloc (by simp) _).alloc (by simp <;> omega) _))); (exact HZ.out); (omega); rintro e w1 ⟨rfl, hb1⟩
 have q1 := ((((Below.refl _ _).alloc (Nat.le_refl _) _).alloc (by simp) _).alloc (by simp <;> omega) _).trans (hb1.mono (by simp <;> omega))
 replace h := h.belw q1
 replace h' := h'.belw q1
 have x1a : Blk w1 w.heap.size 123 #[.bool b, .slice A n c] := (((blkAt _ _ _ (by simp)).alloc _).alloc _).below hb1 (by simp <;> omega)
 have x1b := ((blkAt _ _ _ (g := w.heap.size + 1) (by simp)).alloc _).below hb1 (by simp <;> omega)
 have x1c := (blkAt _ _ _ (g := w.heap.size + 1 + 1) (by simp)).below hb1 (by simp)
 have bw1 := (brefl w).trans (q1.mono (brefl w).size)
 have lw1 : w.heap.size + 3 ≤ w1.heap.size := by have := hb1.size; simp at this; omega
 clear q1
 obtain ⟨cx1ba, cx1bb⟩ := x1b.c2
 obtain ⟨lx1ba, lx1bb, lx1bc, lx1bd⟩ := lts1 x1b.lt
 go_wp2_with fail
 (with_reducible refine (i_sign_e _ b' A' n' c' (z') (k') ?_ (-1) ?_ ?_).mono ?_); (exact h'); (exact HD.out); (omega); rintro e w2 ⟨rfl, q2⟩
 clear cx1ba cx1bb lx1ba lx1bb lx1bc lx1bd
 replace h := h.belw q2
 replace h' := h'.belw q2
 replace x1a := x1a.b q2
 replace x1b := x1b.b q2
 replace x1c := x1c.b q2
 have bw2 := bw1.trans (q2.mono bw1.size)
 have lw2 := q2.size
 clear q2 bw1
 go_wp2_with fail
 obtain ⟨cx1aa, cx1ab⟩ := x1a.c2
 obtain ⟨cx1ba, cx1bb⟩ := x1b.c2
 go_cut [2] (fun s2 wx => s2 = .pointer (some ⟨w.heap.size, 0, none⟩) ∧ ∃ b8 A8 n8 c8 b9 A9 n9 c9, Blk wx w.heap.size 123 #[.bool b8, .slice A8 n8 c8] ∧ Blk wx (w.heap.size + 1) 123 #[.bool b9, .slice A9 n9 c9] ∧ Blk wx (w.heap.size + 1 + 1) 72 #[.bool false, .slice none 0 0, .slice none 0 0] ∧ IV wx b8 A8 n8 c8 (-z) k ∧ IV wx b9 A9 n9 c9 (-z') k' ∧ Below w.heap.size w wx ∧ w2.heap.size ≤ wx.heap.size)
 case first =>
  go_region_with (first
   | (go_at_call 130; (with_reducible refine (i_neg _ b A n c (z) (k) ?_ ?_).mono ?_); (exact h); (omega); rintro e w3 ⟨b4, A4, n4, c4, rfl, h4, hb4⟩; replace hb4 := bnext (below_drewN (brefl _) 1) hb4; replace h' := h'.belw hb4; have bw4 := bw2.trans (hb4.mono bw2.size); have lw4 := hb4.size; replace x1a := x1a.b hb4; replace x1b := x1b.b hb4; replace x1c := x1c.b hb4; obtain ⟨dx1_1_0, dx1_1_1⟩ := x1b.c2)
   | (go_at_call 130; (with_reducible refine (i_neg _ b' A' n' c' (z') (k') ?_ ?_).mono ?_); (exact h'); (omega); rintro e w4 ⟨b5, A5, n5, c5, rfl, h5, hb5⟩; replace h4 := h4.belw hb5; have bw5 := bw4.trans (hb5.mono bw4.size); have lw5 := hb5.size; replace x1a := x1a.b hb5; replace x1b := x1b.b hb5; replace x1c := x1c.b hb5; obtain ⟨ex1_0_0, ex1_0_1⟩ := x1a.c2; obtain ⟨fx1aa, fx1ab⟩ := x1a.f2; obtain ⟨ex1_1_0, ex1_1_1⟩ := x1b.c2; obtain ⟨fx1ba, fx1bb⟩ := x1b.f2))
  all_goals
   go_wp2_with fail
   go_meet
   have kp := (((((Kp.refl w4).sb w.heap.size 0 x1a.box (by decide) (.bool b4)).sb w.heap.size 1 (x1a.box.set ⟨w.heap.size, 0, none⟩ (.bool b4)) (by decide) (.slice A4 n4 c4)).sb (w.heap.size + 1) 0 ((x1b.box.set ⟨w.heap.size, 0, none⟩ (.bool b4)).set ⟨w.heap.size, 1, none⟩ (.slice A4 n4 c4)) (by decide) (.bool b5)).sb (w.heap.size + 1) 1 (((x1b.box.set ⟨w.heap.size, 0, none⟩ (.bool b4)).set ⟨w.heap.size, 1, none⟩ (.slice A4 n4 c4)).set ⟨w.heap.size + 1, 0, none⟩ (.bool b5)) (by decide) (.slice A5 n5 c5))
   exact ⟨rfl, b4, A4, n4, c4, b5, A5, n5, c5, ((((x1a.set_at 0 (.bool b4) #[.bool b4, .slice A n c] (by simp)).set_at 1 (.slice A4 n4 c4) #[.bool b4, .slice A4 n4 c4] (by simp)).fr (w.heap.size + 1) 0 (by omega) (.bool b5)).fr (w.heap.size + 1) 1 (by omega) (.slice A5 n5 c5)), ((((x1b.fr w.heap.size 0 (by omega) (.bool b4)).fr w.heap.size 1 (by omega) (.slice A4 n4 c4)).set_at 0 (.bool b5) #[.bool b5, .slice A' n' c'] (by simp)).set_at 1 (.slice A5 n5 c5) #[.bool b5, .slice A5 n5 c5] (by simp)), ((((x1c.fr w.heap.size 0 (by omega) (.bool b4)).fr w.heap.size 1 (by omega) (.slice A4 n4 c4)).fr (w.heap.size + 1) 0 (by omega) (.bool b5)).fr (w.heap.size + 1) 1 (by omega) (.slice A5 n5 c5)), h4.keep kp, h5.keep kp, ((((bw5.sc w.heap.size 0 (by omega) (.bool b4)).sc w.heap.size 1 (by omega) (.slice A4 n4 c4)).sc (w.heap.size + 1) 0 (by omega) (.bool b5)).sc (w.heap.size + 1) 1 (by omega) (.slice A5 n5 c5)), by simp [World.setCell]; omega⟩
 case rest =>
  clear h h'
  obtain ⟨rfl, b8, A8, n8, c8, b9, A9, n9, c9, y0, y1, y2, h8, h9, bwc, lwc⟩ := hcut
  clear x1a x1b x1c
  have cy0_0 : wc.cell? ⟨w.heap.size, 0, none⟩ = some (.bool b8) := y0.cell 0
  have cy0_1 : wc.cell? ⟨w.heap.size, 1, none⟩ = some (.slice A8 n8 c8) := y0.cell 1
  obtain ⟨ly0_0, ly0_1, ly0_2, ly0_3⟩ := lts0 y0.lt
  have cy1_0 : wc.cell? ⟨w.heap.size + 1, 0, none⟩ = some (.bool b9) := y1.cell 0
  have cy1_1 : wc.cell? ⟨w.heap.size + 1, 1, none⟩ = some (.slice A9 n9 c9) := y1.cell 1
  obtain ⟨ly1_0, ly1_1, ly1_2, ly1_3⟩ := lts1 y1.lt
  go_wp2_with fail
  (with_reducible refine (i_gcd _ b8 A8 n8 c8 (-z) (k) ?_ b9 A9 n9 c9 (-z') (k') ?_ ?_).mono ?_); (exact h8.iz); (exact h9.iz); (first | omega | decide | assumption); rintro e w13 ⟨b13, A13, n13, c13, rfl, h13, q13⟩
  clear cy0_0 cy0_1 ly0_0 ly0_1 ly0_2 ly0_3 cy1_0 cy1_1 ly1_0 ly1_1 ly1_2 ly1_3
  replace h8 := h8.belw q13
  replace h9 := h9.belw q13
  replace y0 := y0.b q13
  replace y1 := y1.b q13
  replace y2 := y2.b q13
  have bw13 := bwc.trans (q13.mono bwc.size)
  have lw13 := q13.size
  clear q13
  obtain ⟨cy0_0, cy0_1⟩ := y0.c2
  obtain ⟨ly0_0, ly0_1, ly0_2, ly0_3⟩ := lts0 y0.lt
  go_wp2_with fail
  (with_reducible refine (i_sign_e _ b8 A8 n8 c8 (-z) (k) ?_ (-1) ?_ ?_).mono ?_); (exact (h8.belw ((Below.refl _ _).alloc (Nat.le_refl _) _)).iz); (exact HN.out); (omega); rintro e w14 ⟨rfl, hb14⟩
  clear cy0_0 cy0_1 ly0_0 ly0_1 ly0_2 ly0_3
  have q14 := ((Below.refl _ _).alloc (Nat.le_refl _) _).trans (hb14.mono (by simp))
  replace h8 := h8.belw q14
  replace h9 := h9.belw q14
  replace h13 := h13.belw q14
  replace y0 := y0.b q14
  replace y1 := y1.b q14
  replace y2 := y2.b q14
  have x14a : Blk w14 w13.heap.size 123 #[.bool b13, .slice A13 n13 c13] := (blkAt _ _ _ (by simp)).below hb14 (by simp)
  have bw14 := bw13.trans (q14.mono bw13.size)
  have lw14 : w13.heap.size + 1 ≤ w14.heap.size := by have := hb14.size; simp at this; omega
  clear q14 bw13
  obtain ⟨cy0_0, cy0_1⟩ := y0.c2
  obtain ⟨ly0_0, ly0_1, ly0_2, ly0_3⟩ := lts0 y0.lt
  go_wp2_with fail
  (with_reducible refine (i_neg _ b8 A8 n8 c8 (-z) (k) ?_ ?_).mono ?_); (exact h8.iz); (first | omega | decide | assumption); rintro e w15 ⟨b15, A15, n15, c15, rfl, h15, q15⟩
  clear cy0_0 cy0_1 ly0_0 ly0_1 ly0_2 ly0_3
  replace h8 := h8.belw q15
  replace h9 := h9.belw q15
  replace h13 := h13.belw q15
  replace y0 := y0.b q15
  replace y1 := y1.b q15
  replace y2 := y2.b q15
  replace x14a := x14a.b q15
  have bw15 := bw14.trans (q15.mono bw14.size)
  have lw15 := q15.size
  clear q15 bw14
  obtain ⟨cy0_0, cy0_1⟩ := y0.c2
  obtain ⟨fy0_0, fy0_1⟩ := y0.f2
  obtain ⟨ly0_0, ly0_1, ly0_2, ly0_3⟩ := lts0 y0.lt
  obtain ⟨cx14aa, cx14ab⟩ := x14a.c2
  obtain ⟨lx14aa, lx14ab, lx14ac, lx14ad⟩ := lts0 x14a.lt
  go_wp2_with fail
  clear cy0_0 fy0_0 cy0_1 fy0_1 ly0_0 ly0_1 ly0_2 ly0_3 cx14aa cx14ab lx14aa lx14ab lx14ac lx14ad
  have p16 := (((Kp.refl w15).sb w.heap.size 0 y0.box (by decide) (.bool b15)).sb w.heap.size 1 (y0.box.set ⟨w.heap.size, 0, none⟩ (.bool b15)) (by decide) (.slice A15 n15 c15))
  have bw16 := ((bw15.sc w.heap.size 0 (by omega) (.bool b15)).sc w.heap.size 1 (by omega) (.slice A15 n15 c15))
  replace y0 : Blk ((w15.setCell ⟨w.heap.size, 0, none⟩ (.bool b15)).setCell ⟨w.heap.size, 1, none⟩ (.slice A15 n15 c15)) w.heap.size 123 #[.bool b15, .slice A15 n15 c15] := ((y0.set_at 0 (.bool b15) #[.bool b15, .slice A8 n8 c8] (by simp)).set_at 1 (.slice A15 n15 c15) #[.bool b15, .slice A15 n15 c15] (by simp))
  replace y1 : Blk ((w15.setCell ⟨w.heap.size, 0, none⟩ (.bool b15)).setCell ⟨w.heap.size, 1, none⟩ (.slice A15 n15 c15)) (w.heap.size + 1) 123 #[.bool b9, .slice A9 n9 c9] := ((y1.fr w.heap.size 0 (by omega) (.bool b15)).fr w.heap.size 1 (by omega) (.slice A15 n15 c15))
  replace y2 : Blk ((w15.setCell ⟨w.heap.size, 0, none⟩ (.bool b15)).setCell ⟨w.heap.size, 1, none⟩ (.slice A15 n15 c15)) (w.heap.size + 1 + 1) 72 #[.bool false, .slice none 0 0, .slice none 0 0] := ((y2.fr w.heap.size 0 (by omega) (.bool b15)).fr w.heap.size 1 (by omega) (.slice A15 n15 c15))
  replace x14a := ((x14a.fr w.heap.size 0 (by omega) (.bool b15)).fr w.heap.size 1 (by omega) (.slice A15 n15 c15))
  have lw16 : w15.heap.size + 0 ≤ ((w15.setCell ⟨w.heap.size, 0, none⟩ (.bool b15)).setCell ⟨w.heap.size, 1, none⟩ (.slice A15 n15 c15)).heap.size := by simp
  generalize hE16 : ((w15.setCell ⟨w.heap.size, 0, none⟩ (.bool b15)).setCell ⟨w.heap.size, 1, none⟩ (.slice A15 n15 c15)) = w16 at p16 bw16 lw16 y0 y1 y2 x14a ⊢
  clear hE16
  replace h8 := h8.keep p16
  replace h9 := h9.keep p16
  replace h13 := h13.keep p16
  replace h15 := h15.keep p16
  clear bw15
  (with_reducible refine (i_div _ b15 A15 n15 c15 (-(-z)) ((k)) ?_ b13 A13 n13 c13 ((Nat.gcd ((-z)).natAbs ((-z')).natAbs : Nat)) ((k) + (k')) ?_  ?_ ?_).mono ?_); (exact h15.iz); (exact h13.iz); (omega); (exact HG.out); rintro e w17 ⟨b17, A17, n17, c17, b'17, A'17, n'17, c'17, rfl, h17, h'17, q17⟩
  replace h8 := h8.belw q17
  replace h9 := h9.belw q17
  replace h13 := h13.belw q17
  replace h15 := h15.belw q17
  replace y0 := y0.b q17
  replace y1 := y1.b q17
  replace y2 := y2.b q17
  replace x14a := x14a.b q17
  have bw17 := bw16.trans (q17.mono bw16.size)
  have lw17 := q17.size
  clear q17 bw16
  obtain ⟨cy0_0, cy0_1⟩ := y0.c2
  obtain ⟨fy0_0, fy0_1⟩ := y0.f2
  obtain ⟨ly0_0, ly0_1, ly0_2, ly0_3⟩ := lts0 y0.lt
  obtain ⟨cy1_0, cy1_1⟩ := y1.c2
  obtain ⟨ly1_0, ly1_1, ly1_2, ly1_3⟩ := lts1 y1.lt
  obtain ⟨cx14aa, cx14ab⟩ := x14a.c2
  obtain ⟨lx14aa, lx14ab, lx14ac, lx14ad⟩ := lts0 x14a.lt
  go_wp2_with fail
  clear cy0_0 fy0_0 cy0_1 fy0_1 ly0_0 ly0_1 ly0_2 ly0_3 cy1_0 cy1_1 ly1_0 ly1_1 ly1_2 ly1_3 cx14aa cx14ab lx14aa lx14ab lx14ac lx14ad
  have p18 := (((Kp.refl w17).sb w.heap.size 0 y0.box (by decide) (.bool b17)).sb w.heap.size 1 (y0.box.set ⟨w.heap.size, 0, none⟩ (.bool b17)) (by decide) (.slice A17 n17 c17))
  have bw18 := ((bw17.sc w.heap.size 0 (by omega) (.bool b17)).sc w.heap.size 1 (by omega) (.slice A17 n17 c17))
  replace y0 : Blk ((w17.setCell ⟨w.heap.size, 0, none⟩ (.bool b17)).setCell ⟨w.heap.size, 1, none⟩ (.slice A17 n17 c17)) w.heap.size 123 #[.bool b17, .slice A17 n17 c17] := ((y0.set_at 0 (.bool b17) #[.bool b17, .slice A15 n15 c15] (by simp)).set_at 1 (.slice A17 n17 c17) #[.bool b17, .slice A17 n17 c17] (by simp))
  replace y1 : Blk ((w17.setCell ⟨w.heap.size, 0, none⟩ (.bool b17)).setCell ⟨w.heap.size, 1, none⟩ (.slice A17 n17 c17)) (w.heap.size + 1) 123 #[.bool b9, .slice A9 n9 c9] := ((y1.fr w.heap.size 0 (by omega) (.bool b17)).fr w.heap.size 1 (by omega) (.slice A17 n17 c17))
  replace y2 : Blk ((w17.setCell ⟨w.heap.size, 0, none⟩ (.bool b17)).setCell ⟨w.heap.size, 1, none⟩ (.slice A17 n17 c17)) (w.heap.size + 1 + 1) 72 #[.bool false, .slice none 0 0, .slice none 0 0] := ((y2.fr w.heap.size 0 (by omega) (.bool b17)).fr w.heap.size 1 (by omega) (.slice A17 n17 c17))
  replace x14a := ((x14a.fr w.heap.size 0 (by omega) (.bool b17)).fr w.heap.size 1 (by omega) (.slice A17 n17 c17))
  have lw18 : w17.heap.size + 0 ≤ ((w17.setCell ⟨w.heap.size, 0, none⟩ (.bool b17)).setCell ⟨w.heap.size, 1, none⟩ (.slice A17 n17 c17)).heap.size := by simp
  generalize hE18 : ((w17.setCell ⟨w.heap.size, 0, none⟩ (.bool b17)).setCell ⟨w.heap.size, 1, none⟩ (.slice A17 n17 c17)) = w18 at p18 bw18 lw18 y0 y1 y2 x14a ⊢
  clear hE18
  replace h8 := h8.keep p18
  replace h9 := h9.keep p18
  replace h13 := h13.keep p18
  replace h15 := h15.keep p18
  replace h17 := h17.keep p18
  replace h'17 := h'17.keep p18
  clear bw17
  (with_reducible refine (i_div _ b9 A9 n9 c9 (-z') (k') ?_ b13 A13 n13 c13 ((Nat.gcd ((-z)).natAbs ((-z')).natAbs : Nat)) ((k) + (k')) ?_  ?_ ?_).mono ?_); (exact h9.iz); (exact h13.iz); (omega); (exact HG.out); rintro e w19 ⟨b19, A19, n19, c19, b'19, A'19, n'19, c'19, rfl, h19, h'19, q19⟩
  replace h8 := h8.belw q19
  replace h9 := h9.belw q19
  replace h13 := h13.belw q19
  replace h15 := h15.belw q19
  replace h17 := h17.belw q19
  replace h'17 := h'17.belw q19
  replace y0 := y0.b q19
  replace y1 := y1.b q19
  replace y2 := y2.b q19
  replace x14a := x14a.b q19
  have bw19 := bw18.trans (q19.mono bw18.size)
  have lw19 := q19.size
  clear q19 bw18
  obtain ⟨cy0_0, cy0_1⟩ := y0.c2
  obtain ⟨ly0_0, ly0_1, ly0_2, ly0_3⟩ := lts0 y0.lt
  obtain ⟨cy1_0, cy1_1⟩ := y1.c2
  obtain ⟨fy1_0, fy1_1⟩ := y1.f2
  obtain ⟨ly1_0, ly1_1, ly1_2, ly1_3⟩ := lts1 y1.lt
  obtain ⟨cy2_0, cy2_1, cy2_2⟩ := y2.c3
  obtain ⟨fy2_0, fy2_1, fy2_2⟩ := y2.f3
  obtain ⟨ly2_0, ly2_1, ly2_2, ly2_3⟩ := lts2 y2.lt
  go_wp2_with fail
  refine bodyPost_ret (v := .agg #[.bool true, .slice A17 n17 c17, .slice A19 n19 c19]) (by simp [results, Tryz.results78, go_sem, *] <;> first | rfl | exact ⟨rfl, rfl⟩) rfl ?_
  obtain ⟨e1, e2, e3⟩ := form_neg HN.out HP.out HQ.out
  exact ⟨_, _, _, _, _, _, _, rfl, QV.mk_ (by rw [e1]; exact h17.2.1.keep ((((((Kp.refl w19).sb (w.heap.size + 1) 0 y1.box (by decide) (.bool b19)).sb (w.heap.size + 1) 1 (y1.box.set ⟨w.heap.size + 1, 0, none⟩ (.bool b19)) (by decide) (.slice A19 n19 c19)).sb (w.heap.size + 1 + 1) 0 ((y2.box.set ⟨w.heap.size + 1, 0, none⟩ (.bool b19)).set ⟨w.heap.size + 1, 1, none⟩ (.slice A19 n19 c19)) (by decide) (.bool true)).sb (w.heap.size + 1 + 1) 1 (((y2.box.set ⟨w.heap.size + 1, 0, none⟩ (.bool b19)).set ⟨w.heap.size + 1, 1, none⟩ (.slice A19 n19 c19)).set ⟨w.heap.size + 1 + 1, 0, none⟩ (.bool true)) (by decide) (.slice A17 n17 c17)).sb (w.heap.size + 1 + 1) 2 ((((y2.box.set ⟨w.heap.size + 1, 0, none⟩ (.bool b19)).set ⟨w.heap.size + 1, 1, none⟩ (.slice A19 n19 c19)).set ⟨w.heap.size + 1 + 1, 0, none⟩ (.bool true)).set ⟨w.heap.size + 1 + 1, 1, none⟩ (.slice A17 n17 c17)) (by decide) (.slice A19 n19 c19))) (by rw [e2]; exact h19.2.1.keep ((((((Kp.refl w19).sb (w.heap.size + 1) 0 y1.box (by decide) (.bool b19)).sb (w.heap.size + 1) 1 (y1.box.set ⟨w.heap.size + 1, 0, none⟩ (.bool b19)) (by decide) (.slice A19 n19 c19)).sb (w.heap.size + 1 + 1) 0 ((y2.box.set ⟨w.heap.size + 1, 0, none⟩ (.bool b19)).set ⟨w.heap.size + 1, 1, none⟩ (.slice A19 n19 c19)) (by decide) (.bool true)).sb (w.heap.size + 1 + 1) 1 (((y2.box.set ⟨w.heap.size + 1, 0, none⟩ (.bool b19)).set ⟨w.heap.size + 1, 1, none⟩ (.slice A19 n19 c19)).set ⟨w.heap.size + 1 + 1, 0, none⟩ (.bool true)) (by decide) (.slice A17 n17 c17)).sb (w.heap.size + 1 + 1) 2 ((((y2.box.set ⟨w.heap.size + 1, 0, none⟩ (.bool b19)).set ⟨w.heap.size + 1, 1, none⟩ (.slice A19 n19 c19)).set ⟨w.heap.size + 1 + 1, 0, none⟩ (.bool true)).set ⟨w.heap.size + 1 + 1, 1, none⟩ (.slice A17 n17 c17)) (by decide) (.slice A19 n19 c19))) e3 HS.out, (((((bw19.sc (w.heap.size + 1) 0 (by omega) (.bool b19)).sc (w.heap.size + 1) 1 (by omega) (.slice A19 n19 c19)).sc (w.heap.size + 1 + 1) 0 (by omega) (.bool true)).sc (w.heap.size + 1 + 1) 1 (by omega) (.slice A17 n17 c17)).sc (w.heap.size + 1 + 1) 2 (by omega) (.slice A19 n19 c19))⟩
theorem f_form_nn (w : World) (b : Bool) (A : Option Addr) (n c : Nat) (z : Int) (k : Nat) (h : IZ w b A n c z k) (b' : Bool) (A' : Option Addr) (n' c' : Nat) (z' : Int) (k' : Nat) (h' : IZ w b' A' n' c' z' k') (q : Rat) (K : Nat) (hz : z.sign = -1) (hd : z'.sign = -1) (hq : Rat.divInt z z' = q) (hs : Sz q K) (hk : k + k' ≤ 300000000) :
  Calls Tryz.prog 78 #[.agg #[.bool b, .slice A n c], .agg #[.bool b', .slice A' n' c']] w (RetF w q K) := by
 have HZ := Lib.hid hz
 have HD := Lib.hid hd
 have HN := Lib.hid (show ((-z)).sign = 1 by rw [Int.sign_neg, hz] <;> rfl)
 have HP := Lib.hid (show 0 < (-z') by exact sign_neg_ hd)
 have HG := Lib.hid (show ((Nat.gcd ((-z)).natAbs ((-z')).natAbs : Nat) : Int) ≠ 0 from gcd_ne HP.out)
 have HQ := Lib.hid (show Rat.divInt (-z) (-z') = q by rw [divInt_neg_neg _ _ (sign_ne hd)]; exact hq)
 have HS := Lib.hid hs
 clear hz hd hq hs
 go_enter Tryz.func78, Tryz.ntmps78
 go_wp2_with fail
 (with_reducible refine (i_sign_e _ b A n c (z) (k) ?_ (-1) ?_ ?_).mono ?_); (exact (h.belw ((((Below.refl _ _).alloc (Nat.le_refl _) _).alloc (by simp) _).alloc (by simp <;> omega) _))); (exact HZ.out); (omega); rintro e w1 ⟨rfl, hb1⟩
 have q1 := ((((Below.refl _ _).alloc (Nat.le_refl _) _).alloc (by simp) _).alloc (by simp <;> omega) _).trans (hb1.mono (by simp <;> omega))
 replace h := h.belw q1
 replace h' := h'.belw q1
 have x1a : Blk w1 w.heap.size 123 #[.bool b, .slice A n c] := (((blkAt _ _ _ (by simp)).alloc _).alloc _).below hb1 (by simp <;> omega)
 have x1b := ((blkAt _ _ _ (g := w.heap.size + 1) (by simp)).alloc _).below hb1 (by simp <;> omega)
 have x1c := (blkAt _ _ _ (g := w.heap.size + 1 + 1) (by simp)).below hb1 (by simp)
 have bw1 := (brefl w).trans (q1.mono (brefl w).size)
 have lw1 : w.heap.size + 3 ≤ w1.heap.size := by have := hb1.size; simp at this; omega
 clear q1
 obtain ⟨cx1ba, cx1bb⟩ := x1b.c2
 obtain ⟨lx1ba, lx1bb, lx1bc, lx1bd⟩ := lts1 x1b.lt
 go_wp2_with fail
 (with_reducible refine (i_sign_e _ b' A' n' c' (z') (k') ?_ (-1) ?_ ?_).mono ?_); (exact h'); (exact HD.out); (omega); rintro e w2 ⟨rfl, q2⟩
 clear cx1ba cx1bb lx1ba lx1bb lx1bc lx1bd
 replace h := h.belw q2
 replace h' := h'.belw q2
 replace x1a := x1a.b q2
 replace x1b := x1b.b q2
 replace x1c := x1c.b q2
 have bw2 := bw1.trans (q2.mono bw1.size)
 have lw2 := q2.size
 clear q2 bw1
 go_wp2_with fail
 obtain ⟨cx1aa, cx1ab⟩ := x1a.c2
 obtain ⟨cx1ba, cx1bb⟩ := x1b.c2
 go_cut [2] (fun s2 wx => s2 = .pointer (some ⟨w.heap.size, 0, none⟩) ∧ ∃ b8 A8 n8 c8 b9 A9 n9 c9, Blk wx w.heap.size 123 #[.bool b8, .slice A8 n8 c8] ∧ Blk wx (w.heap.size + 1) 123 #[.bool b9, .slice A9 n9 c9] ∧ Blk wx (w.heap.size + 1 + 1) 72 #[.bool false, .slice none 0 0, .slice none 0 0] ∧ IV wx b8 A8 n8 c8 (-z) k ∧ IV wx b9 A9 n9 c9 (-z') k' ∧ Below w.heap.size w wx ∧ w2.heap.size ≤ wx.heap.size)
 case first =>
  go_region_with (first
   | (go_at_call 130; (with_reducible refine (i_neg _ b A n c (z) (k) ?_ ?_).mono ?_); (exact h); (omega); rintro e w3 ⟨b4, A4, n4, c4, rfl, h4, hb4⟩; replace hb4 := bnext (below_drewN (brefl _) 1) hb4; replace h' := h'.belw hb4; have bw4 := bw2.trans (hb4.mono bw2.size); have lw4 := hb4.size; replace x1a := x1a.b hb4; replace x1b := x1b.b hb4; replace x1c := x1c.b hb4; obtain ⟨dx1_1_0, dx1_1_1⟩ := x1b.c2)
   | (go_at_call 130; (with_reducible refine (i_neg _ b' A' n' c' (z') (k') ?_ ?_).mono ?_); (exact h'); (omega); rintro e w4 ⟨b5, A5, n5, c5, rfl, h5, hb5⟩; replace h4 := h4.belw hb5; have bw5 := bw4.trans (hb5.mono bw4.size); have lw5 := hb5.size; replace x1a := x1a.b hb5; replace x1b := x1b.b hb5; replace x1c := x1c.b hb5; obtain ⟨ex1_0_0, ex1_0_1⟩ := x1a.c2; obtain ⟨fx1aa, fx1ab⟩ := x1a.f2; obtain ⟨ex1_1_0, ex1_1_1⟩ := x1b.c2; obtain ⟨fx1ba, fx1bb⟩ := x1b.f2))
  all_goals
   go_wp2_with fail
   go_meet
   have kp := (((((Kp.refl w4).sb w.heap.size 0 x1a.box (by decide) (.bool b4)).sb w.heap.size 1 (x1a.box.set ⟨w.heap.size, 0, none⟩ (.bool b4)) (by decide) (.slice A4 n4 c4)).sb (w.heap.size + 1) 0 ((x1b.box.set ⟨w.heap.size, 0, none⟩ (.bool b4)).set ⟨w.heap.size, 1, none⟩ (.slice A4 n4 c4)) (by decide) (.bool b5)).sb (w.heap.size + 1) 1 (((x1b.box.set ⟨w.heap.size, 0, none⟩ (.bool b4)).set ⟨w.heap.size, 1, none⟩ (.slice A4 n4 c4)).set ⟨w.heap.size + 1, 0, none⟩ (.bool b5)) (by decide) (.slice A5 n5 c5))
   exact ⟨rfl, b4, A4, n4, c4, b5, A5, n5, c5, ((((x1a.set_at 0 (.bool b4) #[.bool b4, .slice A n c] (by simp)).set_at 1 (.slice A4 n4 c4) #[.bool b4, .slice A4 n4 c4] (by simp)).fr (w.heap.size + 1) 0 (by omega) (.bool b5)).fr (w.heap.size + 1) 1 (by omega) (.slice A5 n5 c5)), ((((x1b.fr w.heap.size 0 (by omega) (.bool b4)).fr w.heap.size 1 (by omega) (.slice A4 n4 c4)).set_at 0 (.bool b5) #[.bool b5, .slice A' n' c'] (by simp)).set_at 1 (.slice A5 n5 c5) #[.bool b5, .slice A5 n5 c5] (by simp)), ((((x1c.fr w.heap.size 0 (by omega) (.bool b4)).fr w.heap.size 1 (by omega) (.slice A4 n4 c4)).fr (w.heap.size + 1) 0 (by omega) (.bool b5)).fr (w.heap.size + 1) 1 (by omega) (.slice A5 n5 c5)), h4.keep kp, h5.keep kp, ((((bw5.sc w.heap.size 0 (by omega) (.bool b4)).sc w.heap.size 1 (by omega) (.slice A4 n4 c4)).sc (w.heap.size + 1) 0 (by omega) (.bool b5)).sc (w.heap.size + 1) 1 (by omega) (.slice A5 n5 c5)), by simp [World.setCell]; omega⟩
 case rest =>
  clear h h'
  obtain ⟨rfl, b8, A8, n8, c8, b9, A9, n9, c9, y0, y1, y2, h8, h9, bwc, lwc⟩ := hcut
  clear x1a x1b x1c
  obtain ⟨cy0_0, cy0_1⟩ := y0.c2
  obtain ⟨ly0_0, ly0_1, ly0_2, ly0_3⟩ := lts0 y0.lt
  obtain ⟨cy1_0, cy1_1⟩ := y1.c2
  obtain ⟨ly1_0, ly1_1, ly1_2, ly1_3⟩ := lts1 y1.lt
  go_wp2_with fail
  (with_reducible refine (i_gcd _ b8 A8 n8 c8 (-z) (k) ?_ b9 A9 n9 c9 (-z') (k') ?_ ?_).mono ?_); (exact h8.iz); (exact h9.iz); (first | omega | decide | assumption); rintro e w13 ⟨b13, A13, n13, c13, rfl, h13, q13⟩
  clear cy0_0 cy0_1 ly0_0 ly0_1 ly0_2 ly0_3 cy1_0 cy1_1 ly1_0 ly1_1 ly1_2 ly1_3
  replace h8 := h8.belw q13
  replace h9 := h9.belw q13
  replace y0 := y0.b q13
  replace y1 := y1.b q13
  replace y2 := y2.b q13
  have bw13 := bwc.trans (q13.mono bwc.size)
  have lw13 := q13.size
  clear q13
  obtain ⟨cy0_0, cy0_1⟩ := y0.c2
  obtain ⟨ly0_0, ly0_1, ly0_2, ly0_3⟩ := lts0 y0.lt
  go_wp2_with fail
  (with_reducible refine (i_sign_e _ b8 A8 n8 c8 (-z) (k) ?_ (1) ?_ ?_).mono ?_); (exact (h8.belw ((Below.refl _ _).alloc (Nat.le_refl _) _)).iz); (exact HN.out); (omega); rintro e w14 ⟨rfl, hb14⟩
  clear cy0_0 cy0_1 ly0_0 ly0_1 ly0_2 ly0_3
  have q14 := ((Below.refl _ _).alloc (Nat.le_refl _) _).trans (hb14.mono (by simp))
  replace h8 := h8.belw q14
  replace h9 := h9.belw q14
  replace h13 := h13.belw q14
  replace y0 := y0.b q14
  replace y1 := y1.b q14
  replace y2 := y2.b q14
  have x14a : Blk w14 w13.heap.size 123 #[.bool b13, .slice A13 n13 c13] := (blkAt _ _ _ (by simp)).below hb14 (by simp)
  have bw14 := bw13.trans (q14.mono bw13.size)
  have lw14 : w13.heap.size + 1 ≤ w14.heap.size := by have := hb14.size; simp at this; omega
  clear q14 bw13
  obtain ⟨cy0_0, cy0_1⟩ := y0.c2
  obtain ⟨ly0_0, ly0_1, ly0_2, ly0_3⟩ := lts0 y0.lt
  obtain ⟨cx14aa, cx14ab⟩ := x14a.c2
  obtain ⟨lx14aa, lx14ab, lx14ac, lx14ad⟩ := lts0 x14a.lt
  go_wp2_with fail
  (with_reducible refine (i_div _ b8 A8 n8 c8 (-z) (k) ?_ b13 A13 n13 c13 ((Nat.gcd ((-z)).natAbs ((-z')).natAbs : Nat)) ((k) + (k')) ?_  ?_ ?_).mono ?_); (exact h8.iz); (exact h13.iz); (omega); (exact HG.out); rintro e w15 ⟨b15, A15, n15, c15, b'15, A'15, n'15, c'15, rfl, h15, h'15, q15⟩
  clear cy0_0 cy0_1 ly0_0 ly0_1 ly0_2 ly0_3 cx14aa cx14ab lx14aa lx14ab lx14ac lx14ad
  replace h8 := h8.belw q15
  replace h9 := h9.belw q15
  replace h13 := h13.belw q15
  replace y0 := y0.b q15
  replace y1 := y1.b q15
  replace y2 := y2.b q15
  replace x14a := x14a.b q15
  have bw15 := bw14.trans (q15.mono bw14.size)
  have lw15 := q15.size
  clear q15 bw14
  obtain ⟨cy0_0, cy0_1⟩ := y0.c2
  obtain ⟨fy0_0, fy0_1⟩ := y0.f2
  obtain ⟨ly0_0, ly0_1, ly0_2, ly0_3⟩ := lts0 y0.lt
  obtain ⟨cy1_0, cy1_1⟩ := y1.c2
  obtain ⟨ly1_0, ly1_1, ly1_2, ly1_3⟩ := lts1 y1.lt
  obtain ⟨cx14aa, cx14ab⟩ := x14a.c2
  obtain ⟨lx14aa, lx14ab, lx14ac, lx14ad⟩ := lts0 x14a.lt
  go_wp2_with fail
  clear cy0_0 fy0_0 cy0_1 fy0_1 ly0_0 ly0_1 ly0_2 ly0_3 cy1_0 cy1_1 ly1_0 ly1_1 ly1_2 ly1_3 cx14aa cx14ab lx14aa lx14ab lx14ac lx14ad
  have p16 := (((Kp.refl w15).sb w.heap.size 0 y0.box (by decide) (.bool b15)).sb w.heap.size 1 (y0.box.set ⟨w.heap.size, 0, none⟩ (.bool b15)) (by decide) (.slice A15 n15 c15))
  have bw16 := ((bw15.sc w.heap.size 0 (by omega) (.bool b15)).sc w.heap.size 1 (by omega) (.slice A15 n15 c15))
  replace y0 : Blk ((w15.setCell ⟨w.heap.size, 0, none⟩ (.bool b15)).setCell ⟨w.heap.size, 1, none⟩ (.slice A15 n15 c15)) w.heap.size 123 #[.bool b15, .slice A15 n15 c15] := ((y0.set_at 0 (.bool b15) #[.bool b15, .slice A8 n8 c8] (by simp)).set_at 1 (.slice A15 n15 c15) #[.bool b15, .slice A15 n15 c15] (by simp))
  replace y1 : Blk ((w15.setCell ⟨w.heap.size, 0, none⟩ (.bool b15)).setCell ⟨w.heap.size, 1, none⟩ (.slice A15 n15 c15)) (w.heap.size + 1) 123 #[.bool b9, .slice A9 n9 c9] := ((y1.fr w.heap.size 0 (by omega) (.bool b15)).fr w.heap.size 1 (by omega) (.slice A15 n15 c15))
  replace y2 : Blk ((w15.setCell ⟨w.heap.size, 0, none⟩ (.bool b15)).setCell ⟨w.heap.size, 1, none⟩ (.slice A15 n15 c15)) (w.heap.size + 1 + 1) 72 #[.bool false, .slice none 0 0, .slice none 0 0] := ((y2.fr w.heap.size 0 (by omega) (.bool b15)).fr w.heap.size 1 (by omega) (.slice A15 n15 c15))
  replace x14a := ((x14a.fr w.heap.size 0 (by omega) (.bool b15)).fr w.heap.size 1 (by omega) (.slice A15 n15 c15))
  have lw16 : w15.heap.size + 0 ≤ ((w15.setCell ⟨w.heap.size, 0, none⟩ (.bool b15)).setCell ⟨w.heap.size, 1, none⟩ (.slice A15 n15 c15)).heap.size := by simp
  generalize hE16 : ((w15.setCell ⟨w.heap.size, 0, none⟩ (.bool b15)).setCell ⟨w.heap.size, 1, none⟩ (.slice A15 n15 c15)) = w16 at p16 bw16 lw16 y0 y1 y2 x14a ⊢
  clear hE16
  replace h8 := h8.keep p16
  replace h9 := h9.keep p16
  replace h13 := h13.keep p16
  replace h15 := h15.keep p16
  replace h'15 := h'15.keep p16
  clear bw15
  (with_reducible refine (i_div _ b9 A9 n9 c9 (-z') (k') ?_ b13 A13 n13 c13 ((Nat.gcd ((-z)).natAbs ((-z')).natAbs : Nat)) ((k) + (k')) ?_  ?_ ?_).mono ?_); (exact h9.iz); (exact h13.iz); (omega); (exact HG.out); rintro e w17 ⟨b17, A17, n17, c17, b'17, A'17, n'17, c'17, rfl, h17, h'17, q17⟩
  replace h8 := h8.belw q17
  replace h9 := h9.belw q17
  replace h13 := h13.belw q17
  replace h15 := h15.belw q17
  replace h'15 := h'15.belw q17
  replace y0 := y0.b q17
  replace y1 := y1.b q17
  replace y2 := y2.b q17
  replace x14a := x14a.b q17
  have bw17 := bw16.trans (q17.mono bw16.size)
  have lw17 := q17.size
  clear q17 bw16
  obtain ⟨cy0_0, cy0_1⟩ := y0.c2
  obtain ⟨ly0_0, ly0_1, ly0_2, ly0_3⟩ := lts0 y0.lt
  obtain ⟨cy1_0, cy1_1⟩ := y1.c2
  obtain ⟨fy1_0, fy1_1⟩ := y1.f2
  obtain ⟨ly1_0, ly1_1, ly1_2, ly1_3⟩ := lts1 y1.lt
  obtain ⟨cy2_0, cy2_1, cy2_2⟩ := y2.c3
  obtain ⟨fy2_0, fy2_1, fy2_2⟩ := y2.f3
  obtain ⟨ly2_0, ly2_1, ly2_2, ly2_3⟩ := lts2 y2.lt
  go_wp2_with fail
  refine bodyPost_ret (v := .agg #[.bool false, .slice A15 n15 c15, .slice A17 n17 c17]) (by simp [results, Tryz.results78, go_sem, *] <;> first | rfl | exact ⟨rfl, rfl⟩) rfl ?_
  obtain ⟨e1, e2, e3⟩ := form_pos HN.out HP.out HQ.out
  exact ⟨_, _, _, _, _, _, _, rfl, QV.mk_ (by rw [e1]; exact h15.2.1.keep ((((((Kp.refl w17).sb (w.heap.size + 1) 0 y1.box (by decide) (.bool b17)).sb (w.heap.size + 1) 1 (y1.box.set ⟨w.heap.size + 1, 0, none⟩ (.bool b17)) (by decide) (.slice A17 n17 c17)).sb (w.heap.size + 1 + 1) 0 ((y2.box.set ⟨w.heap.size + 1, 0, none⟩ (.bool b17)).set ⟨w.heap.size + 1, 1, none⟩ (.slice A17 n17 c17)) (by decide) (.bool false)).sb (w.heap.size + 1 + 1) 1 (((y2.box.set ⟨w.heap.size + 1, 0, none⟩ (.bool b17)).set ⟨w.heap.size + 1, 1, none⟩ (.slice A17 n17 c17)).set ⟨w.heap.size + 1 + 1, 0, none⟩ (.bool false)) (by decide) (.slice A15 n15 c15)).sb (w.heap.size + 1 + 1) 2 ((((y2.box.set ⟨w.heap.size + 1, 0, none⟩ (.bool b17)).set ⟨w.heap.size + 1, 1, none⟩ (.slice A17 n17 c17)).set ⟨w.heap.size + 1 + 1, 0, none⟩ (.bool false)).set ⟨w.heap.size + 1 + 1, 1, none⟩ (.slice A15 n15 c15)) (by decide) (.slice A17 n17 c17))) (by rw [e2]; exact h17.2.1.keep ((((((Kp.refl w17).sb (w.heap.size + 1) 0 y1.box (by decide) (.bool b17)).sb (w.heap.size + 1) 1 (y1.box.set ⟨w.heap.size + 1, 0, none⟩ (.bool b17)) (by decide) (.slice A17 n17 c17)).sb (w.heap.size + 1 + 1) 0 ((y2.box.set ⟨w.heap.size + 1, 0, none⟩ (.bool b17)).set ⟨w.heap.size + 1, 1, none⟩ (.slice A17 n17 c17)) (by decide) (.bool false)).sb (w.heap.size + 1 + 1) 1 (((y2.box.set ⟨w.heap.size + 1, 0, none⟩ (.bool b17)).set ⟨w.heap.size + 1, 1, none⟩ (.slice A17 n17 c17)).set ⟨w.heap.size + 1 + 1, 0, none⟩ (.bool false)) (by decide) (.slice A15 n15 c15)).sb (w.heap.size + 1 + 1) 2 ((((y2.box.set ⟨w.heap.size + 1, 0, none⟩ (.bool b17)).set ⟨w.heap.size + 1, 1, none⟩ (.slice A17 n17 c17)).set ⟨w.heap.size + 1 + 1, 0, none⟩ (.bool false)).set ⟨w.heap.size + 1 + 1, 1, none⟩ (.slice A15 n15 c15)) (by decide) (.slice A17 n17 c17))) e3 HS.out, (((((bw17.sc (w.heap.size + 1) 0 (by omega) (.bool b17)).sc (w.heap.size + 1) 1 (by omega) (.slice A17 n17 c17)).sc (w.heap.size + 1 + 1) 0 (by omega) (.bool false)).sc (w.heap.size + 1 + 1) 1 (by omega) (.slice A15 n15 c15)).sc (w.heap.size + 1 + 1) 2 (by omega) (.slice A17 n17 c17))⟩
theorem f_form (w : World) (b : Bool) (A : Option Addr) (n c : Nat) (z : Int) (k : Nat) (h : IZ w b A n c z k) (b' : Bool) (A' : Option Addr) (n' c' : Nat) (z' : Int) (k' : Nat) (h' : IZ w b' A' n' c' z' k') (q : Rat) (K : Nat) (hd : z' ≠ 0) (hq : Rat.divInt z z' = q) (hs : Sz q K) (hk : k + k' ≤ 300000000) :
    Calls Tryz.prog 78 #[.agg #[.bool b, .slice A n c], .agg #[.bool b', .slice A' n' c']] w (RetF w q K) := by
  rcases sign3 z with s | s | s
  · rw [← hq, s, Rat.zero_divInt]; exact f_form_0 w b A n c z k h b' A' n' c' z' k' h' K s hk
  · rcases sign3 z' with t | t | t
    · exact absurd t hd
    · exact f_form_pp w b A n c z k h b' A' n' c' z' k' h' q K s t hq hs hk
    · exact f_form_np w b A n c z k h b' A' n' c' z' k' h' q K s t hq hs hk
  · rcases sign3 z' with t | t | t
    · exact absurd t hd
    · exact f_form_pn w b A n c z k h b' A' n' c' z' k' h' q K s t hq hs hk
    · exact f_form_nn w b A n c z k h b' A' n' c' z' k' h' q K s t hq hs hk
end Go.Proofs.YtoiijifnfdgfpaaGreatDoor

/- Walks: fractions: what is valid, the parts. -/
namespace Go.Proofs.YtoiijifnfdgfpaaGreatDoor
open Go Go.RowKit Bn
attribute [local go_sem ↓] Go.wp_at_zero Go.wp_at_succ

section
variable {w : World} {b : Bool} {A : Option Addr} {n c : Nat} {D : Option Addr} {m e : Nat} {a : RD} {k : Nat} (h : QD w b A n c D m e a k)
include h
theorem ok_00 (h1 : n = 0) (h2 : m = 0) : a.ok = !b := by
  have e1 : a.num = [] := List.eq_nil_of_length_eq_zero (by rw [← h.2.1.2.1, h1])
  have e2 : a.den = [] := List.eq_nil_of_length_eq_zero (by rw [← h.2.2.1.2.1, h2])
  unfold RD.ok
  rw [if_pos ⟨e1, e2⟩, h.1]
theorem QD.num_ne (h1 : 0 < n) : a.num ≠ [] := by intro e; have := h.2.1.2.1; rw [e] at this; simp at this; omega
theorem QD.den_ne_ (h1 : 0 < m) : a.den ≠ [] := by intro e; have := h.2.2.1.2.1; rw [e] at this; simp at this; omega
theorem ok_01 (h1 : n = 0) (h2 : 0 < m) : a.ok = false := by
  have e1 : a.num = [] := List.eq_nil_of_length_eq_zero (by rw [← h.2.1.2.1, h1])
  unfold RD.ok
  rw [if_neg (by intro x; exact h.den_ne_ h2 x.2)]; simp [e1]
theorem ok_02 (h1 : 0 < n) (h2 : m = 0) : a.ok = false := by
  have e2 : a.den = [] := List.eq_nil_of_length_eq_zero (by rw [← h.2.2.1.2.1, h2])
  unfold RD.ok
  rw [if_neg (by intro x; exact h.num_ne h1 x.1)]; simp [e2]
omit h in
theorem wdok_ {l : List Nat} (hl : l ≠ []) : WD.ok ⟨false, l⟩ = last0 l := by unfold WD.ok last0; simp [hl]
theorem ok_pos (h1 : 0 < n) (h2 : 0 < m) : a.ok = (WD.ok ⟨false, a.num⟩ && WD.ok ⟨false, a.den⟩ && Nat.gcd (val a.num) (val a.den) == 1) := by
  have e1 := h.num_ne h1
  have e2 := h.den_ne_ h2
  unfold RD.ok
  have f1 : (a.num != []) = true := bne_iff_ne.2 e1
  have f2 : (a.den != []) = true := bne_iff_ne.2 e2
  rw [if_neg (by intro x; exact e1 x.1), wdok_ e1, wdok_ e2, f1, f2]
  rfl
theorem ok_3 (h1 : 0 < n) (h2 : 0 < m) (h3 : WD.ok ⟨false, a.num⟩ = false) : a.ok = false := by rw [ok_pos h h1 h2, h3]; rfl
theorem ok_4 (h1 : 0 < n) (h2 : 0 < m) (h3 : WD.ok ⟨false, a.num⟩ = true) (h4 : WD.ok ⟨false, a.den⟩ = false) : a.ok = false := by rw [ok_pos h h1 h2, h3, h4]; rfl
theorem ok_5 (h1 : 0 < n) (h2 : 0 < m) (h3 : WD.ok ⟨false, a.num⟩ = true) (h4 : WD.ok ⟨false, a.den⟩ = true) : a.ok = (Nat.gcd (val a.num) (val a.den) == 1) := by rw [ok_pos h h1 h2, h3, h4]; rfl
theorem QD.num_z (hk : WD.ok ⟨false, a.num⟩ = true) : IZ w false A n c (val a.num : Int) k := ⟨_, h.2.1, by simp [WD.z, hk], h.2.2.2.1⟩
theorem QD.den_z (hk : WD.ok ⟨false, a.den⟩ = true) : IZ w false D m e (val a.den : Int) k := ⟨_, h.2.2.1, by simp [WD.z, hk], h.2.2.2.2⟩
end
theorem ok_last {x y : Nat} {s : Int} {r : Bool} (hc : cmpI ((Nat.gcd ((x : Int)).natAbs ((y : Int)).natAbs : Nat)) 1 = s) (hr : r = (Nat.gcd x y == 1)) : (s == 0) = r := by
  subst hc hr
  simp only [Int.natAbs_natCast]
  generalize Nat.gcd x y = g
  unfold cmpI
  by_cases h1 : g = 1
  · subst h1; rfl
  · by_cases h2 : g < 1
    · have : g = 0 := by omega
      subst this; rfl
    · have h3 : ¬ ((g : Int) < 1) := by omega
      have h4 : ¬ ((g : Int) = 1) := by omega
      simp [h1, h3, h4]
theorem i_valid_e (w : World) (b : Bool) (A : Option Addr) (n c : Nat) (v : Bool) (l : List Nat) (h : Wd w A n c l) (hv : WD.ok ⟨b, l⟩ = v) (hn : n ≤ 1000000000) :
    Calls Tryz.prog 70 #[.agg #[.bool b, .slice A n c]] w (RetV w (.bool v)) := by subst hv; exact valid_c w b A n c l h (by omega)
theorem i_cmp_e (w : World) (b : Bool) (A : Option Addr) (n c : Nat) (z : Int) (k : Nat) (h : IZ w b A n c z k) (b' : Bool) (A' : Option Addr) (n' c' : Nat) (z' : Int) (k' : Nat) (h' : IZ w b' A' n' c' z' k') (s : Int) (hs : cmpI z z' = s) (hk : k + k' ≤ 1000000000) :
    Calls Tryz.prog 71 #[.agg #[.bool b, .slice A n c], .agg #[.bool b', .slice A' n' c']] w (RetV w (.int .i64 s)) := by subst hs; exact i_cmp w b A n c z k h b' A' n' c' z' k' h' hk
theorem f_one (w : World)  :
  Calls Tryz.prog 73 #[] w (RetI w 1 1) := by
 go_enter Tryz.func73, Tryz.ntmps73
 go_wp2_with fail
 (with_reducible refine (i_of1 _ (1) ?_ ?_).mono ?_); (first | omega | decide | assumption); (first | omega | decide | assumption); rintro e w1 ⟨b1, A1, n1, c1, rfl, h1, hb1⟩
 have q1 := ((Below.refl _ _).alloc (Nat.le_refl _) _).trans (hb1.mono (by simp))
 have x1a : Blk w1 w.heap.size 123 #[.bool false, .slice none 0 0] := (blkAt _ _ _ (by simp)).below hb1 (by simp)
 have bw1 := (brefl w).trans (q1.mono (brefl w).size)
 have lw1 : w.heap.size + 1 ≤ w1.heap.size := by have := hb1.size; simp at this; omega
 clear q1
 obtain ⟨cx1aa, cx1ab⟩ := x1a.c2
 obtain ⟨fx1aa, fx1ab⟩ := x1a.f2
 obtain ⟨lx1aa, lx1ab, lx1ac, lx1ad⟩ := lts0 x1a.lt
 go_wp2_with fail
 refine bodyPost_ret (v := .agg #[.bool b1, .slice A1 n1 c1]) (by simp [results, Tryz.results73, go_sem, *] <;> first | rfl | exact ⟨rfl, rfl⟩) rfl ?_
 exact ⟨b1, A1, n1, c1, rfl, h1.keep (((Kp.refl w1).sb w.heap.size 0 x1a.box (by decide) (.bool b1)).sb w.heap.size 1 (x1a.box.set ⟨w.heap.size, 0, none⟩ (.bool b1)) (by decide) (.slice A1 n1 c1)), ((bw1.sc w.heap.size 0 (by omega) (.bool b1)).sc w.heap.size 1 (by omega) (.slice A1 n1 c1))⟩
theorem f_valid_0 (w : World) (b : Bool) (A : Option Addr) (n c : Nat) (D : Option Addr) (m e : Nat) (a : RD) (k : Nat) (h : QD w b A n c D m e a k) (hk : k ≤ 300000000) (h1 : n = 0) (h2 : m = 0) :
  Calls Tryz.prog 33 #[.agg #[.bool b, .slice A n c, .slice D m e]] w (RetV w (.bool a.ok)) := by
 have HR := Lib.hid (show a.ok = !b from ok_00 h h1 h2)
 have HK := Lib.hid hk
 subst h1 h2
 clear h hk
 go_enter Tryz.func33, Tryz.ntmps33
 go_wp2
 go_ret
 exact retB (by rw [HR.out]) ((Below.refl _ _).alloc (Nat.le_refl _) _)
theorem f_valid_1 (w : World) (b : Bool) (A : Option Addr) (n c : Nat) (D : Option Addr) (m e : Nat) (a : RD) (k : Nat) (h : QD w b A n c D m e a k) (hk : k ≤ 300000000) (h1 : n = 0) (h2 : 0 < m) :
  Calls Tryz.prog 33 #[.agg #[.bool b, .slice A n c, .slice D m e]] w (RetV w (.bool a.ok)) := by
 have HR := Lib.hid (show a.ok = false from ok_01 h h1 h2)
 have HK := Lib.hid hk
 have e1 : ((n : Int) == 0) = true := by simp [h1]
 have e2 : ((m : Int) == 0) = false := by simp; omega
 clear h1 h2 hk
 go_enter Tryz.func33, Tryz.ntmps33
 go_wp2_with fail
 have p1 := ((Kp.refl w).alloc (.cells #[.bool b, .slice A n c, .slice D m e] 72))
 have bw1 := ((brefl w).alloc (by first | omega | (simp <;> omega)) (.cells #[.bool b, .slice A n c, .slice D m e] 72))
 have x1a : Blk (w.alloc (.cells #[.bool b, .slice A n c, .slice D m e] 72)) w.heap.size 72 #[.bool b, .slice A n c, .slice D m e] := (blkAt _ _ _ (by simp))
 have lw1 : w.heap.size + 1 ≤ (w.alloc (.cells #[.bool b, .slice A n c, .slice D m e] 72)).heap.size := by simp
 generalize hE1 : (w.alloc (.cells #[.bool b, .slice A n c, .slice D m e] 72)) = w1 at p1 bw1 lw1 x1a ⊢
 clear hE1
 replace h := h.keep p1
 obtain ⟨cx1aa, cx1ab, cx1ac⟩ := x1a.c3
 obtain ⟨lx1aa, lx1ab, lx1ac, lx1ad⟩ := lts0 x1a.lt
 go_cut [3, 4] (fun s3 s4 wx => ∃ g3 g4, s3 = .pointer (some ⟨g3, 0, none⟩) ∧ s4 = .pointer (some ⟨g4, 0, none⟩) ∧ Blk wx g3 123 #[.bool false, .slice A n c] ∧ Blk wx g4 123 #[.bool false, .slice D m e] ∧ Blk wx w.heap.size 72 #[.bool b, .slice A n c, .slice D m e] ∧ Below w1.heap.size w1 wx)
 case first =>
  go_region_held3 (fun w' => Sees w1.heap.size w1 w') (first | exact Sees.of (Nat.le_refl _) (below_drewN (brefl _) 1) | exact Sees.of (Nat.le_refl _) ((below_drewN (brefl _) 1).alloc (Nat.le_refl _) _) | exact Sees.of (Nat.le_refl _) (((below_drewN (brefl _) 1).alloc (Nat.le_refl _) _).alloc (by simp) _) | exact Sees.of (Nat.le_refl _) ((((below_drewN (brefl _) 1).alloc (Nat.le_refl _) _).alloc (by simp) _).setCell (by simp) _)) (fail)
  all_goals
   go_wp2_with fail
   go_meet
   first
    | exact ⟨_, _, rfl, rfl, ((blkAt _ _ _ rfl).alloc _).drew, (blkAt _ _ _ (by simp)).drew, ((x1a.alloc _).alloc _).drew, ((((Below.refl _ _).alloc (Nat.le_refl _) _).alloc (by simp) _).drew)⟩
    | exact ⟨_, _, rfl, rfl, (blkAt _ _ _ (by simp)).drew, ((blkAt _ _ _ rfl).alloc _).drew, ((x1a.alloc _).alloc _).drew, ((((Below.refl _ _).alloc (Nat.le_refl _) _).alloc (by simp) _).drew)⟩
 case rest =>
  clear cx1aa cx1ab cx1ac lx1aa lx1ab lx1ac lx1ad
  obtain ⟨g3, g4, rfl, rfl, y3, y4, y1, q1⟩ := hcut
  replace h := h.belw q1
  have bwc : Below w.heap.size w wc := bw1.trans (q1.mono bw1.size)
  clear x1a bw1
  have cy1_0 : wc.cell? ⟨w.heap.size, 0, none⟩ = some (.bool b) := y1.cell 0
  have cy1_1 : wc.cell? ⟨w.heap.size, 1, none⟩ = some (.slice A n c) := y1.cell 1
  have cy1_2 : wc.cell? ⟨w.heap.size, 2, none⟩ = some (.slice D m e) := y1.cell 2
  obtain ⟨ly1_0, ly1_1, ly1_2, ly1_3⟩ := lts0 y1.lt
  go_wp2
  go_ret
  exact retB HR.out.symm bwc
theorem f_valid_2 (w : World) (b : Bool) (A : Option Addr) (n c : Nat) (D : Option Addr) (m e : Nat) (a : RD) (k : Nat) (h : QD w b A n c D m e a k) (hk : k ≤ 300000000) (h1 : 0 < n) (h2 : m = 0) :
  Calls Tryz.prog 33 #[.agg #[.bool b, .slice A n c, .slice D m e]] w (RetV w (.bool a.ok)) := by
 have HR := Lib.hid (show a.ok = false from ok_02 h h1 h2)
 have HK := Lib.hid hk
 have e1 : ((n : Int) == 0) = false := by simp; omega
 have e2 : ((m : Int) == 0) = true := by simp [h2]
 clear h1 h2 hk
 go_enter Tryz.func33, Tryz.ntmps33
 go_wp2_with fail
 have p1 := ((Kp.refl w).alloc (.cells #[.bool b, .slice A n c, .slice D m e] 72))
 have bw1 := ((brefl w).alloc (by first | omega | (simp <;> omega)) (.cells #[.bool b, .slice A n c, .slice D m e] 72))
 have x1a : Blk (w.alloc (.cells #[.bool b, .slice A n c, .slice D m e] 72)) w.heap.size 72 #[.bool b, .slice A n c, .slice D m e] := (blkAt _ _ _ (by simp))
 have lw1 : w.heap.size + 1 ≤ (w.alloc (.cells #[.bool b, .slice A n c, .slice D m e] 72)).heap.size := by simp
 generalize hE1 : (w.alloc (.cells #[.bool b, .slice A n c, .slice D m e] 72)) = w1 at p1 bw1 lw1 x1a ⊢
 clear hE1
 replace h := h.keep p1
 obtain ⟨cx1aa, cx1ab, cx1ac⟩ := x1a.c3
 obtain ⟨lx1aa, lx1ab, lx1ac, lx1ad⟩ := lts0 x1a.lt
 go_cut [3, 4] (fun s3 s4 wx => ∃ g3 g4, s3 = .pointer (some ⟨g3, 0, none⟩) ∧ s4 = .pointer (some ⟨g4, 0, none⟩) ∧ Blk wx g3 123 #[.bool false, .slice A n c] ∧ Blk wx g4 123 #[.bool false, .slice D m e] ∧ Blk wx w.heap.size 72 #[.bool b, .slice A n c, .slice D m e] ∧ Below w1.heap.size w1 wx)
 case first =>
  go_region_held3 (fun w' => Sees w1.heap.size w1 w') (first | exact Sees.of (Nat.le_refl _) (below_drewN (brefl _) 1) | exact Sees.of (Nat.le_refl _) ((below_drewN (brefl _) 1).alloc (Nat.le_refl _) _) | exact Sees.of (Nat.le_refl _) (((below_drewN (brefl _) 1).alloc (Nat.le_refl _) _).alloc (by simp) _) | exact Sees.of (Nat.le_refl _) ((((below_drewN (brefl _) 1).alloc (Nat.le_refl _) _).alloc (by simp) _).setCell (by simp) _)) (fail)
  all_goals
   go_wp2_with fail
   go_meet
   first
    | exact ⟨_, _, rfl, rfl, ((blkAt _ _ _ rfl).alloc _).drew, (blkAt _ _ _ (by simp)).drew, ((x1a.alloc _).alloc _).drew, ((((Below.refl _ _).alloc (Nat.le_refl _) _).alloc (by simp) _).drew)⟩
    | exact ⟨_, _, rfl, rfl, (blkAt _ _ _ (by simp)).drew, ((blkAt _ _ _ rfl).alloc _).drew, ((x1a.alloc _).alloc _).drew, ((((Below.refl _ _).alloc (Nat.le_refl _) _).alloc (by simp) _).drew)⟩
 case rest =>
  clear cx1aa cx1ab cx1ac lx1aa lx1ab lx1ac lx1ad
  obtain ⟨g3, g4, rfl, rfl, y3, y4, y1, q1⟩ := hcut
  replace h := h.belw q1
  have bwc : Below w.heap.size w wc := bw1.trans (q1.mono bw1.size)
  clear x1a bw1
  have cy1_0 : wc.cell? ⟨w.heap.size, 0, none⟩ = some (.bool b) := y1.cell 0
  have cy1_1 : wc.cell? ⟨w.heap.size, 1, none⟩ = some (.slice A n c) := y1.cell 1
  have cy1_2 : wc.cell? ⟨w.heap.size, 2, none⟩ = some (.slice D m e) := y1.cell 2
  obtain ⟨ly1_0, ly1_1, ly1_2, ly1_3⟩ := lts0 y1.lt
  go_wp2
  go_ret
  exact retB HR.out.symm bwc
theorem f_valid_3 (w : World) (b : Bool) (A : Option Addr) (n c : Nat) (D : Option Addr) (m e : Nat) (a : RD) (k : Nat) (h : QD w b A n c D m e a k) (hk : k ≤ 300000000) (h1 : 0 < n) (h2 : 0 < m) (h3 : WD.ok ⟨false, a.num⟩ = false) :
  Calls Tryz.prog 33 #[.agg #[.bool b, .slice A n c, .slice D m e]] w (RetV w (.bool a.ok)) := by
 have HR := Lib.hid (ok_3 h h1 h2 h3)
 have HK := Lib.hid hk
 have H3 := Lib.hid h3
 have e1 : ((n : Int) == 0) = false := by simp; omega
 have e2 : ((m : Int) == 0) = false := by simp; omega
 clear h1 h2 hk h3
 go_enter Tryz.func33, Tryz.ntmps33
 go_wp2_with fail
 have p1 := ((Kp.refl w).alloc (.cells #[.bool b, .slice A n c, .slice D m e] 72))
 have bw1 := ((brefl w).alloc (by first | omega | (simp <;> omega)) (.cells #[.bool b, .slice A n c, .slice D m e] 72))
 have x1a : Blk (w.alloc (.cells #[.bool b, .slice A n c, .slice D m e] 72)) w.heap.size 72 #[.bool b, .slice A n c, .slice D m e] := (blkAt _ _ _ (by simp))
 have lw1 : w.heap.size + 1 ≤ (w.alloc (.cells #[.bool b, .slice A n c, .slice D m e] 72)).heap.size := by simp
 generalize hE1 : (w.alloc (.cells #[.bool b, .slice A n c, .slice D m e] 72)) = w1 at p1 bw1 lw1 x1a ⊢
 clear hE1
 replace h := h.keep p1
 obtain ⟨cx1aa, cx1ab, cx1ac⟩ := x1a.c3
 obtain ⟨lx1aa, lx1ab, lx1ac, lx1ad⟩ := lts0 x1a.lt
 go_cut [3, 4] (fun s3 s4 wx => ∃ g3 g4, s3 = .pointer (some ⟨g3, 0, none⟩) ∧ s4 = .pointer (some ⟨g4, 0, none⟩) ∧ Blk wx g3 123 #[.bool false, .slice A n c] ∧ Blk wx g4 123 #[.bool false, .slice D m e] ∧ Blk wx w.heap.size 72 #[.bool b, .slice A n c, .slice D m e] ∧ Below w1.heap.size w1 wx)
 case first =>
  go_region_held3 (fun w' => Sees w1.heap.size w1 w') (first | exact Sees.of (Nat.le_refl _) (below_drewN (brefl _) 1) | exact Sees.of (Nat.le_refl _) ((below_drewN (brefl _) 1).alloc (Nat.le_refl _) _) | exact Sees.of (Nat.le_refl _) (((below_drewN (brefl _) 1).alloc (Nat.le_refl _) _).alloc (by simp) _) | exact Sees.of (Nat.le_refl _) ((((below_drewN (brefl _) 1).alloc (Nat.le_refl _) _).alloc (by simp) _).setCell (by simp) _)) (fail)
  all_goals
   go_wp2_with fail
   go_meet
   first
    | exact ⟨_, _, rfl, rfl, ((blkAt _ _ _ rfl).alloc _).drew, (blkAt _ _ _ (by simp)).drew, ((x1a.alloc _).alloc _).drew, ((((Below.refl _ _).alloc (Nat.le_refl _) _).alloc (by simp) _).drew)⟩
    | exact ⟨_, _, rfl, rfl, (blkAt _ _ _ (by simp)).drew, ((blkAt _ _ _ rfl).alloc _).drew, ((x1a.alloc _).alloc _).drew, ((((Below.refl _ _).alloc (Nat.le_refl _) _).alloc (by simp) _).drew)⟩
 case rest =>
  clear cx1aa cx1ab cx1ac lx1aa lx1ab lx1ac lx1ad
  obtain ⟨g3, g4, rfl, rfl, y3, y4, y1, q1⟩ := hcut
  replace h := h.belw q1
  have bwc : Below w.heap.size w wc := bw1.trans (q1.mono bw1.size)
  clear x1a bw1
  have cy1_0 : wc.cell? ⟨w.heap.size, 0, none⟩ = some (.bool b) := y1.cell 0
  have cy1_1 : wc.cell? ⟨w.heap.size, 1, none⟩ = some (.slice A n c) := y1.cell 1
  have cy1_2 : wc.cell? ⟨w.heap.size, 2, none⟩ = some (.slice D m e) := y1.cell 2
  obtain ⟨ly1_0, ly1_1, ly1_2, ly1_3⟩ := lts0 y1.lt
  have cy3_0 : wc.cell? ⟨g3, 0, none⟩ = some (.bool false) := y3.cell 0
  have cy3_1 : wc.cell? ⟨g3, 1, none⟩ = some (.slice A n c) := y3.cell 1
  obtain ⟨ly3_0, ly3_1, ly3_2, ly3_3⟩ := lts0 y3.lt
  go_wp2_with fail
  (with_reducible refine (i_valid_e _ false A n c false a.num  ?_ ?_ ?_).mono ?_); (exact h.2.1); (exact H3.out); (have := h.2.2.2.1; have := HK.out; omega); rintro e w7 ⟨rfl, q7⟩
  clear cy1_0 cy1_1 cy1_2 ly1_0 ly1_1 ly1_2 ly1_3 cy3_0 cy3_1 ly3_0 ly3_1 ly3_2 ly3_3
  replace h := h.belw q7
  replace y1 := y1.b q7
  replace y3 := y3.b q7
  replace y4 := y4.b q7
  have bw7 := bwc.trans (q7.mono bwc.size)
  have lw7 := q7.size
  clear q7
  obtain ⟨cy4_0, cy4_1⟩ := y4.c2
  obtain ⟨ly4_0, ly4_1, ly4_2, ly4_3⟩ := lts0 y4.lt
  go_wp2_with fail
  go_wp2_with fail
  go_ret
  exact retB HR.out.symm bw7
theorem f_valid_4 (w : World) (b : Bool) (A : Option Addr) (n c : Nat) (D : Option Addr) (m e : Nat) (a : RD) (k : Nat) (h : QD w b A n c D m e a k) (hk : k ≤ 300000000) (h1 : 0 < n) (h2 : 0 < m) (h3 : WD.ok ⟨false, a.num⟩ = true) (h4 : WD.ok ⟨false, a.den⟩ = false) :
  Calls Tryz.prog 33 #[.agg #[.bool b, .slice A n c, .slice D m e]] w (RetV w (.bool a.ok)) := by
 have HR := Lib.hid (ok_4 h h1 h2 h3 h4)
 have HK := Lib.hid hk
 have H3 := Lib.hid h3
 have e1 : ((n : Int) == 0) = false := by simp; omega
 have e2 : ((m : Int) == 0) = false := by simp; omega
 have H4 := Lib.hid h4
 clear h4
 clear h1 h2 hk h3
 go_enter Tryz.func33, Tryz.ntmps33
 go_wp2_with fail
 have p1 := ((Kp.refl w).alloc (.cells #[.bool b, .slice A n c, .slice D m e] 72))
 have bw1 := ((brefl w).alloc (by first | omega | (simp <;> omega)) (.cells #[.bool b, .slice A n c, .slice D m e] 72))
 have x1a : Blk (w.alloc (.cells #[.bool b, .slice A n c, .slice D m e] 72)) w.heap.size 72 #[.bool b, .slice A n c, .slice D m e] := (blkAt _ _ _ (by simp))
 have lw1 : w.heap.size + 1 ≤ (w.alloc (.cells #[.bool b, .slice A n c, .slice D m e] 72)).heap.size := by simp
 generalize hE1 : (w.alloc (.cells #[.bool b, .slice A n c, .slice D m e] 72)) = w1 at p1 bw1 lw1 x1a ⊢
 clear hE1
 replace h := h.keep p1
 obtain ⟨cx1aa, cx1ab, cx1ac⟩ := x1a.c3
 obtain ⟨lx1aa, lx1ab, lx1ac, lx1ad⟩ := lts0 x1a.lt
 go_cut [3, 4] (fun s3 s4 wx => ∃ g3 g4, s3 = .pointer (some ⟨g3, 0, none⟩) ∧ s4 = .pointer (some ⟨g4, 0, none⟩) ∧ Blk wx g3 123 #[.bool false, .slice A n c] ∧ Blk wx g4 123 #[.bool false, .slice D m e] ∧ Blk wx w.heap.size 72 #[.bool b, .slice A n c, .slice D m e] ∧ Below w1.heap.size w1 wx)
 case first =>
  go_region_held3 (fun w' => Sees w1.heap.size w1 w') (first | exact Sees.of (Nat.le_refl _) (below_drewN (brefl _) 1) | exact Sees.of (Nat.le_refl _) ((below_drewN (brefl _) 1).alloc (Nat.le_refl _) _) | exact Sees.of (Nat.le_refl _) (((below_drewN (brefl _) 1).alloc (Nat.le_refl _) _).alloc (by simp) _) | exact Sees.of (Nat.le_refl _) ((((below_drewN (brefl _) 1).alloc (Nat.le_refl _) _).alloc (by simp) _).setCell (by simp) _)) (fail)
  all_goals
   go_wp2_with fail
   go_meet
   first
    | exact ⟨_, _, rfl, rfl, ((blkAt _ _ _ rfl).alloc _).drew, (blkAt _ _ _ (by simp)).drew, ((x1a.alloc _).alloc _).drew, ((((Below.refl _ _).alloc (Nat.le_refl _) _).alloc (by simp) _).drew)⟩
    | exact ⟨_, _, rfl, rfl, (blkAt _ _ _ (by simp)).drew, ((blkAt _ _ _ rfl).alloc _).drew, ((x1a.alloc _).alloc _).drew, ((((Below.refl _ _).alloc (Nat.le_refl _) _).alloc (by simp) _).drew)⟩
 case rest =>
  clear cx1aa cx1ab cx1ac lx1aa lx1ab lx1ac lx1ad
  obtain ⟨g3, g4, rfl, rfl, y3, y4, y1, q1⟩ := hcut
  replace h := h.belw q1
  have bwc : Below w.heap.size w wc := bw1.trans (q1.mono bw1.size)
  clear x1a bw1
  obtain ⟨cy1_0, cy1_1, cy1_2⟩ := y1.c3
  obtain ⟨ly1_0, ly1_1, ly1_2, ly1_3⟩ := lts0 y1.lt
  obtain ⟨cy3_0, cy3_1⟩ := y3.c2
  obtain ⟨ly3_0, ly3_1, ly3_2, ly3_3⟩ := lts0 y3.lt
  go_wp2_with fail
  (with_reducible refine (i_valid_e _ false A n c true a.num  ?_ ?_ ?_).mono ?_); (exact h.2.1); (exact H3.out); (have := h.2.2.2.1; have := HK.out; omega); rintro e w7 ⟨rfl, q7⟩
  clear cy1_0 cy1_1 cy1_2 ly1_0 ly1_1 ly1_2 ly1_3 cy3_0 cy3_1 ly3_0 ly3_1 ly3_2 ly3_3
  replace h := h.belw q7
  replace y1 := y1.b q7
  replace y3 := y3.b q7
  replace y4 := y4.b q7
  have bw7 := bwc.trans (q7.mono bwc.size)
  have lw7 := q7.size
  clear q7
  obtain ⟨cy4_0, cy4_1⟩ := y4.c2
  obtain ⟨ly4_0, ly4_1, ly4_2, ly4_3⟩ := lts0 y4.lt
  go_wp2_with fail
  (with_reducible refine (i_valid_e _ false D m e false a.den  ?_ ?_ ?_).mono ?_); (exact h.2.2.1); (exact H4.out); (have := h.2.2.2.2; have := HK.out; omega); rintro e w8 ⟨rfl, q8⟩
  clear cy4_0 cy4_1 ly4_0 ly4_1 ly4_2 ly4_3
  replace h := h.belw q8
  replace y1 := y1.b q8
  replace y3 := y3.b q8
  replace y4 := y4.b q8
  have bw8 := bw7.trans (q8.mono bw7.size)
  have lw8 := q8.size
  clear q8 bw7
  go_wp2_with fail
  go_wp2_with fail
  go_ret
  exact retB HR.out.symm bw8
theorem f_valid_5 (w : World) (b : Bool) (A : Option Addr) (n c : Nat) (D : Option Addr) (m e : Nat) (a : RD) (k : Nat) (h : QD w b A n c D m e a k) (hk : k ≤ 300000000) (h1 : 0 < n) (h2 : 0 < m) (h3 : WD.ok ⟨false, a.num⟩ = true) (h4 : WD.ok ⟨false, a.den⟩ = true) :
  Calls Tryz.prog 33 #[.agg #[.bool b, .slice A n c, .slice D m e]] w (RetV w (.bool a.ok)) := by
 have HR := Lib.hid (ok_5 h h1 h2 h3 h4)
 have HK := Lib.hid hk
 have H3 := Lib.hid h3
 have e1 : ((n : Int) == 0) = false := by simp; omega
 have e2 : ((m : Int) == 0) = false := by simp; omega
 have H4 := Lib.hid h4
 clear h4
 clear h1 h2 hk h3
 go_enter Tryz.func33, Tryz.ntmps33
 go_wp2_with fail
 have p1 := ((Kp.refl w).alloc (.cells #[.bool b, .slice A n c, .slice D m e] 72))
 have bw1 := ((brefl w).alloc (by first | omega | (simp <;> omega)) (.cells #[.bool b, .slice A n c, .slice D m e] 72))
 have x1a : Blk (w.alloc (.cells #[.bool b, .slice A n c, .slice D m e] 72)) w.heap.size 72 #[.bool b, .slice A n c, .slice D m e] := (blkAt _ _ _ (by simp))
 have lw1 : w.heap.size + 1 ≤ (w.alloc (.cells #[.bool b, .slice A n c, .slice D m e] 72)).heap.size := by simp
 generalize hE1 : (w.alloc (.cells #[.bool b, .slice A n c, .slice D m e] 72)) = w1 at p1 bw1 lw1 x1a ⊢
 clear hE1
 replace h := h.keep p1
 obtain ⟨cx1aa, cx1ab, cx1ac⟩ := x1a.c3
 obtain ⟨lx1aa, lx1ab, lx1ac, lx1ad⟩ := lts0 x1a.lt
 go_cut [3, 4] (fun s3 s4 wx => ∃ g3 g4, s3 = .pointer (some ⟨g3, 0, none⟩) ∧ s4 = .pointer (some ⟨g4, 0, none⟩) ∧ Blk wx g3 123 #[.bool false, .slice A n c] ∧ Blk wx g4 123 #[.bool false, .slice D m e] ∧ Blk wx w.heap.size 72 #[.bool b, .slice A n c, .slice D m e] ∧ Below w1.heap.size w1 wx)
 case first =>
  go_region_held3 (fun w' => Sees w1.heap.size w1 w') (first | exact Sees.of (Nat.le_refl _) (below_drewN (brefl _) 1) | exact Sees.of (Nat.le_refl _) ((below_drewN (brefl _) 1).alloc (Nat.le_refl _) _) | exact Sees.of (Nat.le_refl _) (((below_drewN (brefl _) 1).alloc (Nat.le_refl _) _).alloc (by simp) _) | exact Sees.of (Nat.le_refl _) ((((below_drewN (brefl _) 1).alloc (Nat.le_refl _) _).alloc (by simp) _).setCell (by simp) _)) (fail)
  all_goals
   go_wp2_with fail
   go_meet
   first
    | exact ⟨_, _, rfl, rfl, ((blkAt _ _ _ rfl).alloc _).drew, (blkAt _ _ _ (by simp)).drew, ((x1a.alloc _).alloc _).drew, ((((Below.refl _ _).alloc (Nat.le_refl _) _).alloc (by simp) _).drew)⟩
    | exact ⟨_, _, rfl, rfl, (blkAt _ _ _ (by simp)).drew, ((blkAt _ _ _ rfl).alloc _).drew, ((x1a.alloc _).alloc _).drew, ((((Below.refl _ _).alloc (Nat.le_refl _) _).alloc (by simp) _).drew)⟩
 case rest =>
  clear cx1aa cx1ab cx1ac lx1aa lx1ab lx1ac lx1ad
  obtain ⟨g3, g4, rfl, rfl, y3, y4, y1, q1⟩ := hcut
  replace h := h.belw q1
  have bwc : Below w.heap.size w wc := bw1.trans (q1.mono bw1.size)
  clear x1a bw1
  obtain ⟨cy1_0, cy1_1, cy1_2⟩ := y1.c3
  obtain ⟨ly1_0, ly1_1, ly1_2, ly1_3⟩ := lts0 y1.lt
  obtain ⟨cy3_0, cy3_1⟩ := y3.c2
  obtain ⟨ly3_0, ly3_1, ly3_2, ly3_3⟩ := lts0 y3.lt
  go_wp2_with fail
  (with_reducible refine (i_valid_e _ false A n c true a.num  ?_ ?_ ?_).mono ?_); (exact h.2.1); (exact H3.out); (have := h.2.2.2.1; have := HK.out; omega); rintro e w7 ⟨rfl, q7⟩
  clear cy1_0 cy1_1 cy1_2 ly1_0 ly1_1 ly1_2 ly1_3 cy3_0 cy3_1 ly3_0 ly3_1 ly3_2 ly3_3
  replace h := h.belw q7
  replace y1 := y1.b q7
  replace y3 := y3.b q7
  replace y4 := y4.b q7
  have bw7 := bwc.trans (q7.mono bwc.size)
  have lw7 := q7.size
  clear q7
  obtain ⟨cy4_0, cy4_1⟩ := y4.c2
  obtain ⟨ly4_0, ly4_1, ly4_2, ly4_3⟩ := lts0 y4.lt
  go_wp2_with fail
  (with_reducible refine (i_valid_e _ false D m e true a.den  ?_ ?_ ?_).mono ?_); (exact h.2.2.1); (exact H4.out); (have := h.2.2.2.2; have := HK.out; omega); rintro e w8 ⟨rfl, q8⟩
  clear cy4_0 cy4_1 ly4_0 ly4_1 ly4_2 ly4_3
  replace h := h.belw q8
  replace y1 := y1.b q8
  replace y3 := y3.b q8
  replace y4 := y4.b q8
  have bw8 := bw7.trans (q8.mono bw7.size)
  have lw8 := q8.size
  clear q8 bw7
  obtain ⟨cy3_0, cy3_1⟩ := y3.c2
  obtain ⟨ly3_0, ly3_1, ly3_2, ly3_3⟩ := lts0 y3.lt
  obtain ⟨cy4_0, cy4_1⟩ := y4.c2
  obtain ⟨ly4_0, ly4_1, ly4_2, ly4_3⟩ := lts0 y4.lt
  go_wp2_with fail
  have hN := h.num_z H3.out
  have hD := h.den_z H4.out
  obtain ⟨s, hs⟩ : ∃ s, cmpI ((Nat.gcd ((val a.num : Int)).natAbs ((val a.den : Int)).natAbs : Nat)) 1 = s := ⟨_, rfl⟩
  have HC := Lib.hid hs
  clear hs
  (with_reducible refine (i_gcd _ false A n c ((val a.num : Int)) (k) ?_ false D m e ((val a.den : Int)) (k) ?_ ?_).mono ?_); (exact hN); (exact hD); (have := HK.out; omega); rintro e w9 ⟨b9, A9, n9, c9, rfl, h9, q9⟩
  clear cy3_0 cy3_1 ly3_0 ly3_1 ly3_2 ly3_3 cy4_0 cy4_1 ly4_0 ly4_1 ly4_2 ly4_3
  replace h := h.belw q9
  replace hN := hN.belw q9
  replace hD := hD.belw q9
  replace y1 := y1.b q9
  replace y3 := y3.b q9
  replace y4 := y4.b q9
  have bw9 := bw8.trans (q9.mono bw8.size)
  have lw9 := q9.size
  clear q9 bw8
  go_wp2_with fail
  (with_reducible refine (f_one _).mono ?_); rintro e w10 ⟨b10, A10, n10, c10, rfl, h10, q10⟩
  replace h := h.belw q10
  replace hN := hN.belw q10
  replace hD := hD.belw q10
  replace h9 := h9.belw q10
  replace y1 := y1.b q10
  replace y3 := y3.b q10
  replace y4 := y4.b q10
  have bw10 := bw9.trans (q10.mono bw9.size)
  have lw10 := q10.size
  clear q10 bw9
  go_wp2_with fail
  (with_reducible refine (i_cmp_e _ b9 A9 n9 c9 ((Nat.gcd (((val a.num : Int))).natAbs (((val a.den : Int))).natAbs : Nat)) ((k) + (k)) ?_ b10 A10 n10 c10 (1) (1) ?_ s ?_ ?_).mono ?_); (exact h9.iz); (exact h10.iz); (exact HC.out); (have := HK.out; omega); rintro e w11 ⟨rfl, q11⟩
  replace h := h.belw q11
  replace hN := hN.belw q11
  replace hD := hD.belw q11
  replace h9 := h9.belw q11
  replace h10 := h10.belw q11
  replace y1 := y1.b q11
  replace y3 := y3.b q11
  replace y4 := y4.b q11
  have bw11 := bw10.trans (q11.mono bw10.size)
  have lw11 := q11.size
  clear q11 bw10
  go_wp2_with fail
  go_ret
  exact retB (ok_last HC.out HR.out) bw11
theorem f_valid (w : World) (b : Bool) (A : Option Addr) (n c : Nat) (D : Option Addr) (m e : Nat) (a : RD) (k : Nat) (h : QD w b A n c D m e a k) (hk : k ≤ 300000000) : Calls Tryz.prog 33 #[.agg #[.bool b, .slice A n c, .slice D m e]] w (RetV w (.bool a.ok)) := by
  rcases Nat.eq_zero_or_pos n with h1 | h1 <;> rcases Nat.eq_zero_or_pos m with h2 | h2
  · exact f_valid_0 w b A n c D m e a k h hk h1 h2
  · exact f_valid_1 w b A n c D m e a k h hk h1 h2
  · exact f_valid_2 w b A n c D m e a k h hk h1 h2
  · cases h3 : WD.ok ⟨false, a.num⟩
    · exact f_valid_3 w b A n c D m e a k h hk h1 h2 h3
    · cases h4 : WD.ok ⟨false, a.den⟩
      · exact f_valid_4 w b A n c D m e a k h hk h1 h2 h3 h4
      · exact f_valid_5 w b A n c D m e a k h hk h1 h2 h3 h4
end Go.Proofs.YtoiijifnfdgfpaaGreatDoor

/- Walks: the reference's sums and differences of lists. -/
namespace Go.Proofs.YtoiijifnfdgfpaaGreatDoor
open Go Go.RowKit Bn

theorem own_base {w : World} {base : Nat} {e : TypeId} {size : Nat} {v : Value} {n : Nat} {xs : List Value} (h : w.ownsRow base e size v n xs) : ∀ b, v.ownBlock = some b → base ≤ b := by
  intro b hb
  rcases h.2 with ⟨rfl, _⟩ | ⟨g, c, cur, rfl, h1, _⟩
  · simp [Value.ownBlock] at hb
  · simp [Value.ownBlock] at hb; omega
end Go.Proofs.YtoiijifnfdgfpaaGreatDoor

/- Walks: the reference's lists that are changed in their place. -/
namespace Go.Proofs.YtoiijifnfdgfpaaGreatDoor
open Go Go.RowKit Bn

def OwS (w : World) (B g n cap : Nat) (l : List Nat) : Prop := w.ownsRow B 82 1 (.slice (some ⟨g, 0, none⟩) n cap) n (words l) ∧ Wds l
theorem OwS.len {w : World} {B g n cap : Nat} {l : List Nat} (h : OwS w B g n cap l) : n = l.length := by have := h.1.1; rw [words_len] at this; omega
theorem OwS.base {w : World} {B g n cap : Nat} {l : List Nat} (h : OwS w B g n cap l) : B ≤ g := own_base h.1 g rfl
theorem OwS.toWd {w : World} {B g n cap : Nat} {l : List Nat} (h : OwS w B g n cap l) : Wd w (some ⟨g, 0, none⟩) n cap l := Wd.of_own h.1 h.2
theorem OwS.cell {w : World} {B g n cap : Nat} {l : List Nat} (h : OwS w B g n cap l) (i : Nat) (hi : i < n) : w.cell? ⟨g, i, none⟩ = some (.int .u32 (wd l i : Nat)) := by
  rw [h.1.cellAt i (by omega)]; exact words_get (by rw [← h.len]; exact hi)
theorem OwS.frozen {w : World} {B g n cap : Nat} {l : List Nat} (h : OwS w B g n cap l) (i : Nat) : w.frozen? ⟨g, i, none⟩ = false := h.1.frozenAt i
theorem OwS.lt {w : World} {B g n cap : Nat} {l : List Nat} (h : OwS w B g n cap l) : g < w.heap.size := by
  rcases h.1.2 with ⟨e, _⟩ | ⟨g', c', cur, e, _, hg, _⟩
  · cases e
  · injection e with e; injection e with e; injection e with e; subst e; exact lt_of_block hg
theorem OwS.cap {w : World} {B g n cap : Nat} {l : List Nat} (h : OwS w B g n cap l) : n ≤ cap := h.toWd.2.2.1
theorem OwS.cut {w : World} {B g n cap : Nat} {l : List Nat} (h : OwS w B g n cap l) {k : Nat} (hk : k ≤ n) : OwS w B g k cap (l.take k) := by
  have hl := h.len
  refine ⟨⟨by rw [words_len, List.length_take]; omega, ?_⟩, Wds.take h.2 k⟩
  rcases h.1.2 with ⟨e, _⟩ | ⟨g', c', cur, e, hb, hg, hc, hm, hs, ht⟩
  · cases e
  · injection e with e1 _ e2; injection e1 with e1; injection e1 with e1; subst e1 e2
    refine .inr ⟨g, cap, cur, rfl, hb, hg, by omega, hm, hs, ?_⟩
    have : words (l.take k) = (words l).take k := by simp [words, List.map_take]
    rw [this, ← ht, List.take_take]; congr 1; omega
theorem words_set (l : List Nat) (i x : Nat) : (words l).set i (.int .u32 (x : Nat)) = words (l.set i x) := by simp [words, List.map_set]
theorem OwS.set {w : World} {B g n cap : Nat} {l : List Nat} (h : OwS w B g n cap l) (i : Nat) {x : Nat} (hx : x < 4294967296) {z : Int} (hz : z = x) : OwS (w.setCell ⟨g, i, none⟩ (.int .u32 z)) B g n cap (l.set i x) := by
  subst hz
  refine ⟨?_, wds_set h.2 i hx⟩
  rw [← words_set]
  exact (h.1.stored i _).1
def Only (g : Nat) (w w' : World) : Prop := Below g w w' ∧ w'.heap.size = w.heap.size ∧ ∀ b, b ≠ g → w'.heap[b]? = w.heap[b]?
theorem Only.refl (g : Nat) (w : World) : Only g w w := ⟨Below.refl _ _, rfl, fun _ _ => rfl⟩
theorem Only.set {g : Nat} {w w' : World} (h : Only g w w') (i : Nat) (u : Value) : Only g w (w'.setCell ⟨g, i, none⟩ u) :=
  ⟨h.1.setCell (p := ⟨g, i, none⟩) (Nat.le_refl _) u, by rw [← h.2.1]; simp [World.setCell], fun b hb => (Below.heap_setCell w' ⟨g, i, none⟩ u b hb).trans (h.2.2 b hb)⟩
theorem Only.trans {g : Nat} {a b c : World} (h : Only g a b) (k : Only g b c) : Only g a c := ⟨h.1.trans k.1, k.2.1.trans h.2.1, fun x hx => (k.2.2 x hx).trans (h.2.2 x hx)⟩
theorem Only.own {g : Nat} {w w' : World} (h : Only g w w') {B g' n cap : Nat} {l : List Nat} (k : OwS w B g' n cap l) (hg : g' ≠ g) : OwS w' B g' n cap l := by
  refine ⟨⟨k.1.1, ?_⟩, k.2⟩
  rcases k.1.2 with ⟨e, _⟩ | ⟨g1, c', cur, e, hb, hgg, r⟩
  · cases e
  · have e' := e
    injection e with e1 _ e2; injection e1 with e1; injection e1 with e1; subst e1
    exact .inr ⟨g', c', cur, e', hb, (h.2.2 _ hg).trans hgg, r⟩
theorem Only.wd {g : Nat} {w w' : World} (h : Only g w w') {g' o n c : Nat} {l : List Nat} (k : Wd w (some ⟨g', o, none⟩) n c l) (hg : g' ≠ g) : Wd w' (some ⟨g', o, none⟩) n c l := by
  refine ⟨k.1, k.2.1, k.2.2.1, fun hn => ?_⟩
  obtain ⟨g1, o1, cur, fr, e, hb, hc⟩ := k.2.2.2 hn
  have e' := e
  injection e with e1; injection e1 with e1; subst e1
  exact ⟨_, o1, cur, fr, e', hb.same (h.2.2 _ hg), hc⟩
end Go.Proofs.YtoiijifnfdgfpaaGreatDoor

/- Walks: the reference's halving in place. -/
namespace Go.Proofs.YtoiijifnfdgfpaaGreatDoor
open Go Go.RowKit Bn

def HalveI (l L : List Nat) (j : Nat) : Prop := Wds L ∧ L.length = l.length ∧ (∀ i, j ≤ i → wd L i = wd l i) ∧ 2 * Sm (wd L) j + wd l 0 % 2 = Sm (wd l) j + wd l j % 2 * 4294967296 ^ j
theorem HalveI.start {l : List Nat} (h : Wds l) : HalveI l l 0 := ⟨h, rfl, fun _ _ => rfl, by simp [Sm]⟩
theorem HalveI.step {l L : List Nat} {j : Nat} (h : HalveI l L j) (hj : j < l.length) (hl : Wds l) : HalveI l (L.set j (wd l j / 2 + (wd l (j + 1) % 2) * 2147483648)) (j + 1) := by
  obtain ⟨h1, h2, h3, h4⟩ := h
  have hx := wd_lt hl j
  refine ⟨wds_set h1 j (by omega), by rw [List.length_set]; exact h2, fun i hi => ?_, ?_⟩
  · rw [wd_set, if_neg (by omega)]; exact h3 i (by omega)
  · rw [Sm_set_succ _ _ _ (by omega), Sm]
    generalize wd l j = x at *
    generalize wd l (j + 1) = y at *
    generalize wd l 0 = z at *
    rw [Nat.pow_succ]
    have e : 2 * ((x / 2 + y % 2 * 2147483648) * 4294967296 ^ j) + x % 2 * 4294967296 ^ j = x * 4294967296 ^ j + y % 2 * (4294967296 ^ j * 4294967296) := by
      have hx2 : x = 2 * (x / 2) + x % 2 := by omega
      generalize x / 2 = p at *
      generalize x % 2 = r at *
      subst hx2
      generalize 4294967296 ^ j = P
      grind
    omega
theorem HalveI.fin {l L : List Nat} (h : HalveI l L l.length) : val L = val l / 2 := by
  obtain ⟨h1, h2, h3, h4⟩ := h
  rw [Sm_ge L (by omega), Sm_ge l (Nat.le_refl _), wd_ge (Nat.le_refl _)] at h4
  omega
end Go.Proofs.YtoiijifnfdgfpaaGreatDoor

/- Walks: the reference's greatest common divisor, by halving and subtracting. -/
namespace Go.Proofs.YtoiijifnfdgfpaaGreatDoor
open Go Go.RowKit Bn

def Two (w wr : World) (N : Nat) (va vb : Value) (x y : Nat) : Prop := ∃ ga na ca gb nb cb, va = .slice (some ⟨ga, 0, none⟩) na ca ∧ vb = .slice (some ⟨gb, 0, none⟩) nb cb ∧ OwS wr w.heap.size ga na ca (digs x) ∧ OwS wr w.heap.size gb nb cb (digs y) ∧ ga ≠ gb ∧ Below w.heap.size w wr ∧ x < 4294967296 ^ N ∧ y < 4294967296 ^ N
theorem Two.left {w wr w1 : World} {N ga na ca gb nb cb x y u k : Nat} (hT : Two w wr N (.slice (some ⟨ga, 0, none⟩) na ca) (.slice (some ⟨gb, 0, none⟩) nb cb) x y) (ho : OwS w1 w.heap.size ga k ca (digs u)) (hon : Only ga wr w1) (hu : u ≤ x) : Two w w1 N (.slice (some ⟨ga, 0, none⟩) k ca) (.slice (some ⟨gb, 0, none⟩) nb cb) u y := by
  obtain ⟨ga', na', ca', gb', nb', cb', e1, e2, oa, ob, hg, hbl, hxN, hyN⟩ := hT
  injection e1 with e1 e3 e4; injection e1 with e1; injection e1 with e1
  injection e2 with e2 e5 e6; injection e2 with e2; injection e2 with e2
  subst e1 e2 e3 e4 e5 e6
  exact ⟨ga, k, ca, gb, nb, cb, rfl, rfl, ho, hon.own ob (Ne.symm hg), hg, hbl.trans (hon.1.mono oa.base), Nat.lt_of_le_of_lt hu hxN, hyN⟩
theorem Two.at_ {w wr : World} {N ga na ca gb nb cb x y : Nat} (hT : Two w wr N (.slice (some ⟨ga, 0, none⟩) na ca) (.slice (some ⟨gb, 0, none⟩) nb cb) x y) : OwS wr w.heap.size ga na ca (digs x) ∧ OwS wr w.heap.size gb nb cb (digs y) ∧ ga ≠ gb ∧ Below w.heap.size w wr ∧ x < 4294967296 ^ N ∧ y < 4294967296 ^ N := by
  obtain ⟨ga', na', ca', gb', nb', cb', e1, e2, h⟩ := hT
  injection e1 with e1 e3 e4; injection e1 with e1; injection e1 with e1
  injection e2 with e2 e5 e6; injection e2 with e2; injection e2 with e2
  subst e1 e2 e3 e4 e5 e6
  exact h
theorem OwS.belw {w w' : World} {B g n cap : Nat} {l : List Nat} (h : OwS w B g n cap l) (hb : Below w.heap.size w w') : OwS w' B g n cap l := by
  refine ⟨⟨h.1.1, ?_⟩, h.2⟩
  rcases h.1.2 with ⟨e, _⟩ | ⟨g', cap', cur, e, hb1, hgg, r⟩
  · cases e
  · exact .inr ⟨g', cap', cur, e, hb1, (hb.block g' (lt_of_block hgg)).trans hgg, r⟩
theorem Two.belw {w wr w1 : World} {N : Nat} {va vb : Value} {x y : Nat} (hT : Two w wr N va vb x y) (hb : Below wr.heap.size wr w1) : Two w w1 N va vb x y := by
  obtain ⟨ga, na, ca, gb, nb, cb, e1, e2, oa, ob, hg, hbl, hxN, hyN⟩ := hT
  exact ⟨ga, na, ca, gb, nb, cb, e1, e2, oa.belw hb, ob.belw hb, hg, hbl.trans (hb.mono hbl.size), hxN, hyN⟩
theorem Two.form {w wr : World} {N : Nat} {va vb : Value} {x y : Nat} (hT : Two w wr N va vb x y) : ∃ ga na ca gb nb cb, va = .slice (some ⟨ga, 0, none⟩) na ca ∧ vb = .slice (some ⟨gb, 0, none⟩) nb cb := by
  obtain ⟨ga, na, ca, gb, nb, cb, e1, e2, _⟩ := hT
  exact ⟨ga, na, ca, gb, nb, cb, e1, e2⟩
end Go.Proofs.YtoiijifnfdgfpaaGreatDoor

/- Walks: fractions: the parts. -/
namespace Go.Proofs.YtoiijifnfdgfpaaGreatDoor
open Go Go.RowKit Bn
attribute [local go_sem ↓] Go.wp_at_zero Go.wp_at_succ

section
variable {w : World} {b : Bool} {A : Option Addr} {n c : Nat} {D : Option Addr} {m e : Nat} {a : RD} {k : Nat}
theorem q_bad (h : a.ok = false ∨ a.num = []) : a.q.num = 0 ∧ (a.q.den : Int) = 1 := by
  have e1 : (a.ok && a.num != []) = false := by rcases h with h | h <;> simp [h]
  have e2 : a.q = 0 := by unfold RD.q RD.n RD.d; rw [e1]; simp
  rw [e2]; exact ⟨rfl, rfl⟩
theorem q_ok (hn : Wds a.num) (hd : Wds a.den) (ho : a.ok = true) (h0 : a.num ≠ []) : a.num = (wh a.q.num).mag ∧ a.neg = (wh a.q.num).neg ∧ a.den = (wh (a.q.den : Int)).mag := by
  have h1 := rd_of_ok hn hd ho
  have h2 : a.q.num ≠ 0 := by
    intro e
    have : (rd a.q).num = [] := by unfold rd; simp [e, digs_zero]
    rw [h1] at this; exact h0 this
  have h3 : (rd a.q).den = digs a.q.den := by unfold rd; simp [h2]
  refine ⟨?_, ?_, ?_⟩
  · have : (rd a.q).num = digs a.q.num.natAbs := rfl
    rw [h1] at this; exact this
  · have : (rd a.q).neg = decide (a.q.num < 0) := rfl
    rw [h1] at this; exact this
  · rw [h1] at h3; exact h3
theorem den_pos_ (h : QD w b A n c D m e a k) (ho : a.ok = true) (h0 : a.num ≠ []) : 0 < m := by
  rcases Nat.eq_zero_or_pos m with h1 | h1
  · have e2 : a.den = [] := List.eq_nil_of_length_eq_zero (by rw [← h.2.2.1.2.1, h1])
    unfold RD.ok at ho
    rw [if_neg (by intro x; exact h0 x.1)] at ho
    simp [e2] at ho
  · exact h1
end
abbrev SeesY (G g2 g3 : Nat) (v0 v1 : Value) (W0 W : World) : Prop := ((∀ b o, b < G → b ≠ g2 → b ≠ g3 → W.cell? ⟨b, o, none⟩ = W0.cell? ⟨b, o, none⟩) ∧ (∀ b o, b < G → W.frozen? ⟨b, o, none⟩ = W0.frozen? ⟨b, o, none⟩)) ∧ G ≤ W.heap.size ∧ W.cell? ⟨g2, 0, none⟩ = some v0 ∧ W.cell? ⟨g2, 1, none⟩ = some v1
theorem SeesY.of {G g2 g3 : Nat} {v0 v1 : Value} {W0 W : World} (h : G ≤ W0.heap.size) (hb : Below W0.heap.size W0 W) (hg : g2 < W0.heap.size) (h0 : W0.cell? ⟨g2, 0, none⟩ = some v0) (h1 : W0.cell? ⟨g2, 1, none⟩ = some v1) : SeesY G g2 g3 v0 v1 W0 W :=
  ⟨⟨fun b o hlt _ _ => (bcell hb).1 b o (Nat.lt_of_lt_of_le hlt h), fun b o hlt => (bcell hb).2 b o (Nat.lt_of_lt_of_le hlt h)⟩, Nat.le_trans h hb.size, ((bcell hb).1 _ _ hg).trans h0, ((bcell hb).1 _ _ hg).trans h1⟩
theorem cell_set_same {w : World} {p : Addr} {u : Value} (v : Value) (h : w.cell? p = some u) (hp : p.spot = none) : (w.setCell p v).cell? p = some v := by
  obtain ⟨b, o, s⟩ := p
  simp only at hp; subst hp
  unfold World.cell? at h ⊢
  simp only [World.setCell, Array.getElem?_modify, if_true] at h ⊢
  cases hh : w.heap[b]? with
  | none => rw [hh] at h; simp at h
  | some ob =>
    rw [hh] at h
    cases ob <;> simp_all
    obtain ⟨hl, _⟩ := Array.getElem?_eq_some_iff.1 h
    simp [hl]
theorem SeesY.set2 {G g2 g3 : Nat} {v0 v1 : Value} {W0 W : World} (h : SeesY G g2 g3 v0 v1 W0 W) {i : Nat} {u : Value} (hi : (i = 0 ∧ u = v0) ∨ (i = 1 ∧ u = v1)) : SeesY G g2 g3 v0 v1 W0 (W.setCell ⟨g2, i, none⟩ u) := by
  refine ⟨⟨fun b o hlt hne h3 => ?_, fun b o hlt => ?_⟩, ?_, ?_, ?_⟩
  · rw [← h.1.1 b o hlt hne h3]; unfold World.cell?; rw [Below.heap_setCell _ _ _ b hne]
  · rw [← h.1.2 b o hlt]; exact World.frozen?_setCell ..
  · have := h.2.1; simp [World.setCell]; exact this
  · rcases hi with ⟨rfl, rfl⟩ | ⟨rfl, rfl⟩
    · exact cell_set_same _ h.2.2.1 rfl
    · rw [World.cell?_setCell_other _ _ _ _ (by simp)]; exact h.2.2.1
  · rcases hi with ⟨rfl, rfl⟩ | ⟨rfl, rfl⟩
    · rw [World.cell?_setCell_other _ _ _ _ (by simp)]; exact h.2.2.2
    · exact cell_set_same _ h.2.2.2 rfl
theorem SeesY.set3 {G g2 g3 : Nat} {v0 v1 : Value} {W0 W : World} (h : SeesY G g2 g3 v0 v1 W0 W) {i : Nat} {u : Value} (hg : g2 ≠ g3) : SeesY G g2 g3 v0 v1 W0 (W.setCell ⟨g3, i, none⟩ u) := by
  refine ⟨⟨fun b o hlt hne h3 => ?_, fun b o hlt => ?_⟩, ?_, ?_, ?_⟩
  · rw [← h.1.1 b o hlt hne h3]; unfold World.cell?; rw [Below.heap_setCell _ _ _ b h3]
  · rw [← h.1.2 b o hlt]; exact World.frozen?_setCell ..
  · have := h.2.1; simp [World.setCell]; exact this
  · rw [World.cell?_setCell_other _ _ _ _ (by simp <;> omega)]; exact h.2.2.1
  · rw [World.cell?_setCell_other _ _ _ _ (by simp <;> omega)]; exact h.2.2.2
theorem f_valid_e (w : World) (b : Bool) (A : Option Addr) (n c : Nat) (D : Option Addr) (m e : Nat) (a : RD) (k : Nat) (v : Bool) (h : QD w b A n c D m e a k) (hk : k ≤ 300000000) (hv : a.ok = v) :
    Calls Tryz.prog 33 #[.agg #[.bool b, .slice A n c, .slice D m e]] w (RetV w (.bool v)) := by subst hv; exact f_valid w b A n c D m e a k h hk
theorem f_parts_1 (w : World) (b : Bool) (A : Option Addr) (n c : Nat) (D : Option Addr) (m e : Nat) (a : RD) (k : Nat) (h : QD w b A n c D m e a k) (h0 : 0 < k) (hk : k ≤ 300000000) (ho : a.ok = false) :
  Calls Tryz.prog 136 #[.agg #[.bool b, .slice A n c, .slice D m e]] w (RetII w a.q.num a.q.den k) := by
 have HK := Lib.hid hk
 have HO := Lib.hid ho
 have hq : a.q.num = 0 ∧ (a.q.den : Int) = 1 := q_bad (.inl ho)
 rw [hq.1, hq.2]
 clear hq ho
 have HP := Lib.hid h0
 go_enter Tryz.func136, Tryz.ntmps136
 go_wp2_with fail
 (with_reducible refine (f_valid_e _ b A n c D m e a k false ?_ ?_ ?_).mono ?_); (exact h.belw (((((Below.refl _ _).alloc (Nat.le_refl _) _).alloc (by simp) _).alloc (by simp <;> omega) _))); (exact HK.out); (exact HO.out); rintro e w1 ⟨rfl, hb1⟩
 have q1 := ((((Below.refl _ _).alloc (Nat.le_refl _) _).alloc (by simp) _).alloc (by simp <;> omega) _).trans (hb1.mono (by simp <;> omega))
 replace h := h.belw q1
 have x1a : Blk w1 w.heap.size 72 #[.bool b, .slice A n c, .slice D m e] := (((blkAt _ _ _ (by simp)).alloc _).alloc _).below hb1 (by simp <;> omega)
 have x1b := ((blkAt _ _ _ (g := w.heap.size + 1) (by simp)).alloc _).below hb1 (by simp <;> omega)
 have x1c := (blkAt _ _ _ (g := w.heap.size + 1 + 1) (by simp)).below hb1 (by simp)
 have bw1 := (brefl w).trans (q1.mono (brefl w).size)
 have lw1 : w.heap.size + 3 ≤ w1.heap.size := by have := hb1.size; simp at this; omega
 clear q1
 obtain ⟨cx1aa, cx1ab, cx1ac⟩ := x1a.c3
 obtain ⟨lx1aa, lx1ab, lx1ac, lx1ad⟩ := lts0 x1a.lt
 go_wp2_with fail
 (with_reducible refine (f_one _).mono ?_); rintro e w2 ⟨b2, A2, n2, c2, rfl, h2, q2⟩
 clear cx1aa cx1ab cx1ac lx1aa lx1ab lx1ac lx1ad
 replace h := h.belw q2
 replace x1a := x1a.b q2
 replace x1b := x1b.b q2
 replace x1c := x1c.b q2
 have bw2 := bw1.trans (q2.mono bw1.size)
 have lw2 := q2.size
 clear q2 bw1
 obtain ⟨cx1ba, cx1bb⟩ := x1b.c2
 obtain ⟨fx1ba, fx1bb⟩ := x1b.f2
 obtain ⟨lx1ba, lx1bb, lx1bc, lx1bd⟩ := lts1 x1b.lt
 obtain ⟨cx1ca, cx1cb⟩ := x1c.c2
 obtain ⟨fx1ca, fx1cb⟩ := x1c.f2
 obtain ⟨lx1ca, lx1cb, lx1cc, lx1cd⟩ := lts2 x1c.lt
 go_wp2_with fail
 refine bodyPost_ret (v := .tuple #[.agg #[.bool false, .slice none 0 0], .agg #[.bool b2, .slice A2 n2 c2]]) (by simp [results, Tryz.results136, go_sem, *] <;> first | rfl | exact ⟨rfl, rfl⟩) rfl ?_
 exact ⟨false, none, 0, 0, b2, A2, n2, c2, rfl, IV.zero _ _, (h2.keep (((((Kp.refl w2).sb (w.heap.size + 1) 0 x1b.box (by decide) (.bool false)).sb (w.heap.size + 1) 1 (x1b.box.set ⟨w.heap.size + 1, 0, none⟩ (.bool false)) (by decide) (.slice none 0 0)).sb (w.heap.size + 1 + 1) 0 ((x1c.box.set ⟨w.heap.size + 1, 0, none⟩ (.bool false)).set ⟨w.heap.size + 1, 1, none⟩ (.slice none 0 0)) (by decide) (.bool b2)).sb (w.heap.size + 1 + 1) 1 (((x1c.box.set ⟨w.heap.size + 1, 0, none⟩ (.bool false)).set ⟨w.heap.size + 1, 1, none⟩ (.slice none 0 0)).set ⟨w.heap.size + 1 + 1, 0, none⟩ (.bool b2)) (by decide) (.slice A2 n2 c2))).mono (by first | exact HP.out | omega), ((((bw2.sc (w.heap.size + 1) 0 (by omega) (.bool false)).sc (w.heap.size + 1) 1 (by omega) (.slice none 0 0)).sc (w.heap.size + 1 + 1) 0 (by omega) (.bool b2)).sc (w.heap.size + 1 + 1) 1 (by omega) (.slice A2 n2 c2))⟩
theorem f_parts_2 (w : World) (b : Bool) (A : Option Addr) (n c : Nat) (D : Option Addr) (m e : Nat) (a : RD) (k : Nat) (h : QD w b A n c D m e a k) (h0 : 0 < k) (hk : k ≤ 300000000) (ho : a.ok = true) (hn : n = 0) :
  Calls Tryz.prog 136 #[.agg #[.bool b, .slice A n c, .slice D m e]] w (RetII w a.q.num a.q.den k) := by
 have HK := Lib.hid hk
 have HO := Lib.hid ho
 have hq : a.q.num = 0 ∧ (a.q.den : Int) = 1 := q_bad (.inr (List.eq_nil_of_length_eq_zero (by rw [← h.2.1.2.1, hn])))
 rw [hq.1, hq.2]
 clear hq ho
 subst hn
 have HP := Lib.hid h0
 go_enter Tryz.func136, Tryz.ntmps136
 go_wp2_with fail
 (with_reducible refine (f_valid_e _ b A 0 c D m e a k true ?_ ?_ ?_).mono ?_); (exact h.belw (((((Below.refl _ _).alloc (Nat.le_refl _) _).alloc (by simp) _).alloc (by simp <;> omega) _))); (exact HK.out); (exact HO.out); rintro e w1 ⟨rfl, hb1⟩
 have q1 := ((((Below.refl _ _).alloc (Nat.le_refl _) _).alloc (by simp) _).alloc (by simp <;> omega) _).trans (hb1.mono (by simp <;> omega))
 replace h := h.belw q1
 have x1a : Blk w1 w.heap.size 72 #[.bool b, .slice A 0 c, .slice D m e] := (((blkAt _ _ _ (by simp)).alloc _).alloc _).below hb1 (by simp <;> omega)
 have x1b := ((blkAt _ _ _ (g := w.heap.size + 1) (by simp)).alloc _).below hb1 (by simp <;> omega)
 have x1c := (blkAt _ _ _ (g := w.heap.size + 1 + 1) (by simp)).below hb1 (by simp)
 have bw1 := (brefl w).trans (q1.mono (brefl w).size)
 have lw1 : w.heap.size + 3 ≤ w1.heap.size := by have := hb1.size; simp at this; omega
 clear q1
 obtain ⟨cx1aa, cx1ab, cx1ac⟩ := x1a.c3
 obtain ⟨lx1aa, lx1ab, lx1ac, lx1ad⟩ := lts0 x1a.lt
 go_wp2_with fail
 (with_reducible refine (f_one _).mono ?_); rintro e w2 ⟨b2, A2, n2, c2, rfl, h2, q2⟩
 clear cx1aa cx1ab cx1ac lx1aa lx1ab lx1ac lx1ad
 replace h := h.belw q2
 replace x1a := x1a.b q2
 replace x1b := x1b.b q2
 replace x1c := x1c.b q2
 have bw2 := bw1.trans (q2.mono bw1.size)
 have lw2 := q2.size
 clear q2 bw1
 obtain ⟨cx1ba, cx1bb⟩ := x1b.c2
 obtain ⟨fx1ba, fx1bb⟩ := x1b.f2
 obtain ⟨lx1ba, lx1bb, lx1bc, lx1bd⟩ := lts1 x1b.lt
 obtain ⟨cx1ca, cx1cb⟩ := x1c.c2
 obtain ⟨fx1ca, fx1cb⟩ := x1c.f2
 obtain ⟨lx1ca, lx1cb, lx1cc, lx1cd⟩ := lts2 x1c.lt
 go_wp2_with fail
 refine bodyPost_ret (v := .tuple #[.agg #[.bool false, .slice none 0 0], .agg #[.bool b2, .slice A2 n2 c2]]) (by simp [results, Tryz.results136, go_sem, *] <;> first | rfl | exact ⟨rfl, rfl⟩) rfl ?_
 exact ⟨false, none, 0, 0, b2, A2, n2, c2, rfl, IV.zero _ _, (h2.keep (((((Kp.refl w2).sb (w.heap.size + 1) 0 x1b.box (by decide) (.bool false)).sb (w.heap.size + 1) 1 (x1b.box.set ⟨w.heap.size + 1, 0, none⟩ (.bool false)) (by decide) (.slice none 0 0)).sb (w.heap.size + 1 + 1) 0 ((x1c.box.set ⟨w.heap.size + 1, 0, none⟩ (.bool false)).set ⟨w.heap.size + 1, 1, none⟩ (.slice none 0 0)) (by decide) (.bool b2)).sb (w.heap.size + 1 + 1) 1 (((x1c.box.set ⟨w.heap.size + 1, 0, none⟩ (.bool false)).set ⟨w.heap.size + 1, 1, none⟩ (.slice none 0 0)).set ⟨w.heap.size + 1 + 1, 0, none⟩ (.bool b2)) (by decide) (.slice A2 n2 c2))).mono (by first | exact HP.out | omega), ((((bw2.sc (w.heap.size + 1) 0 (by omega) (.bool false)).sc (w.heap.size + 1) 1 (by omega) (.slice none 0 0)).sc (w.heap.size + 1 + 1) 0 (by omega) (.bool b2)).sc (w.heap.size + 1 + 1) 1 (by omega) (.slice A2 n2 c2))⟩
theorem f_parts_3 (w : World) (b : Bool) (A : Option Addr) (n c : Nat) (D : Option Addr) (m e : Nat) (a : RD) (k : Nat) (h : QD w b A n c D m e a k) (h0 : 0 < k) (hk : k ≤ 300000000) (ho : a.ok = true) (hn : a.num ≠ []) :
  Calls Tryz.prog 136 #[.agg #[.bool b, .slice A n c, .slice D m e]] w (RetII w a.q.num a.q.den k) := by
 have HK := Lib.hid hk
 have HO := Lib.hid ho
 obtain ⟨e1, e2, e3⟩ := q_ok h.2.1.1 h.2.2.1.1 ho hn
 have HE := Lib.hid (And.intro e1 (And.intro e2 e3))
 have hnp : 0 < n := by rcases Nat.eq_zero_or_pos n with h1 | h1; exact absurd (List.eq_nil_of_length_eq_zero (by rw [← h.2.1.2.1, h1])) hn; exact h1
 have hmp : 0 < m := den_pos_ h ho hn
 have en : ((n : Int) == 0) = false := by simp; omega
 have hkn : n ≤ 300000000 := Nat.le_trans h.2.2.2.1 hk
 have hkm : m ≤ 300000000 := Nat.le_trans h.2.2.2.2 hk
 obtain ⟨i0, hi0, hz0, hz1, hz2⟩ := info_parts info_u32
 obtain ⟨gA, oA, eA, hlA, _⟩ := h.2.1.at2 hnp
 obtain ⟨gD, oD, eD, hlD, _⟩ := h.2.2.1.at2 hmp
 subst eA eD
 clear ho hn e1 e2 e3 hk
 go_enter Tryz.func136, Tryz.ntmps136
 go_wp2_with fail
 (with_reducible refine (f_valid_e _ b (some ⟨gA, oA, none⟩) n c (some ⟨gD, oD, none⟩) m e a k true ?_ ?_ ?_).mono ?_); (exact h.belw (((((Below.refl _ _).alloc (Nat.le_refl _) _).alloc (by simp) _).alloc (by simp <;> omega) _))); (exact HK.out); (exact HO.out); rintro e w1 ⟨rfl, hb1⟩
 have q1 := ((((Below.refl _ _).alloc (Nat.le_refl _) _).alloc (by simp) _).alloc (by simp <;> omega) _).trans (hb1.mono (by simp <;> omega))
 replace h := h.belw q1
 have x1a : Blk w1 w.heap.size 72 #[.bool b, .slice (some ⟨gA, oA, none⟩) n c, .slice (some ⟨gD, oD, none⟩) m e] := (((blkAt _ _ _ (by simp)).alloc _).alloc _).below hb1 (by simp <;> omega)
 have x1b := ((blkAt _ _ _ (g := w.heap.size + 1) (by simp)).alloc _).below hb1 (by simp <;> omega)
 have x1c := (blkAt _ _ _ (g := w.heap.size + 1 + 1) (by simp)).below hb1 (by simp)
 have bw1 := (brefl w).trans (q1.mono (brefl w).size)
 have lw1 : w.heap.size + 3 ≤ w1.heap.size := by have := hb1.size; simp at this; omega
 clear q1
 obtain ⟨cx1aa, cx1ab, cx1ac⟩ := x1a.c3
 obtain ⟨lx1aa, lx1ab, lx1ac, lx1ad⟩ := lts0 x1a.lt
 obtain ⟨cx1ba, cx1bb⟩ := x1b.c2
 obtain ⟨fx1ba, fx1bb⟩ := x1b.f2
 obtain ⟨lx1ba, lx1bb, lx1bc, lx1bd⟩ := lts1 x1b.lt
 obtain ⟨cx1ca, cx1cb⟩ := x1c.c2
 obtain ⟨fx1ca, fx1cb⟩ := x1c.f2
 obtain ⟨lx1ca, lx1cb, lx1cc, lx1cd⟩ := lts2 x1c.lt
 go_wp2_with fail
 have howna := World.ownsRow_lit (e := 82) (size := 1) w1 #[] 0 (Nat.le_refl _) (by simp [maxLen]) rfl
 have hnewsa := ((h.2.1).keep ((Kp.refl w1).alloc (.cells #[] 82))).news (by omega) (Nat.le_refl _)
 have hnla : (words (a.num.take n)).length = n * 1 := by rw [words_len, List.length_take]; have := (h.2.1).2.1; omega
 have HOa := Lib.hid howna
 have HNa := Lib.hid hnewsa
 have HNLa := Lib.hid hnla
 clear howna hnewsa hnla
 have nf0 : ¬ w.heap.size = w.heap.size + 1 := by omega
 have nf2 : ¬ w.heap.size + 1 + 1 = w.heap.size + 1 := by omega
 have nfa : ¬ w1.heap.size = w.heap.size + 1 := by have := x1b.lt; omega
 go_region_held3 (fun w' => SeesX w1.heap.size (w.heap.size + 1) w1 w') (first | exact SeesX.of (Nat.le_refl _) (below_drewN (brefl _) 1) | exact SeesX.of (Nat.le_refl _) ((below_drewN (brefl _) 1).alloc (Nat.le_refl _) _) | exact SeesX.of (Nat.le_refl _) (((brefl _).alloc (Nat.le_refl _) _).drew) | exact SeesX.of (Nat.le_refl _) (by assumption) | exact SeesX.set (SeesX.of (Nat.le_refl _) (by assumption)) | exact SeesX.set (SeesX.set (SeesX.of (Nat.le_refl _) (by assumption)))) ((refine step_append_lies _ rfl _ _ _ rfl w1.heap.size 82 i0 (.int .u32 0) 1 4 Tryz.underlying70 hi0 hz0 hz1 hz2 rfl (by omega) _ 0 [] rfl (by first | exact HOa.out | exact HOa.out.drew) ⟨gA, oA, none⟩ n c (words (a.num.take n)) rfl HNLa.out HNa.out (words_one _) (by omega) (by unfold maxLen; omega) (by omega) (by simp) (w1.heap.size + 1) (by simp) ?_; intro ga capa va howna hgrowa hata hlta; have qa : Below w1.heap.size w1 va := (((Below.refl _ _).alloc (Nat.le_refl _) _).drew).grown hgrowa (by simp) (fun b hb => Nat.le_of_eq (Option.some.inj hb)); have y1 : Blk va (w.heap.size + 1) 123 #[.bool false, .slice none 0 0] := x1b.below qa x1b.lt; obtain ⟨cy10, cy11⟩ := y1.c2; obtain ⟨fy10, fy11⟩ := y1.f2))
 simp only [Nat.zero_add, List.nil_append] at howna
 have hwa : Wd va (some ⟨ga, 0, none⟩) n capa a.num := by
  have x := Wd.of_own howna (Wds.take (h.2.1).1 n)
  rwa [List.take_of_length_le (Nat.le_of_eq (h.2.1).2.1.symm)] at x
 clear howna hgrowa hata HOa HNa HNLa
 clear cx1aa cx1ab cx1ac lx1aa lx1ab lx1ac lx1ad cx1ba fx1ba cx1bb fx1bb lx1ba lx1bb lx1bc lx1bd cx1ca fx1ca cx1cb fx1cb lx1ca lx1cb lx1cc lx1cd
 clear cy10 cy11 fy10 fy11 nfa nf0 nf2
 replace x1a := x1a.b qa
 replace x1c := x1c.b qa
 replace h := h.belw qa
 have bwa : Below w.heap.size w va := bw1.trans (qa.mono bw1.size)
 have lwa : w1.heap.size ≤ va.heap.size := qa.size
 clear x1b
 go_wp2_with fail
 have p5 := (((Kp.refl va).sb (w.heap.size + 1) 0 y1.box (by decide) (.bool b)).sb (w.heap.size + 1) 1 (y1.box.set ⟨w.heap.size + 1, 0, none⟩ (.bool b)) (by decide) (.slice (some ⟨ga, 0, none⟩) n capa))
 have bw5 := ((bwa.sc (w.heap.size + 1) 0 (by omega) (.bool b)).sc (w.heap.size + 1) 1 (by omega) (.slice (some ⟨ga, 0, none⟩) n capa))
 replace x1a := ((x1a.fr (w.heap.size + 1) 0 (by omega) (.bool b)).fr (w.heap.size + 1) 1 (by omega) (.slice (some ⟨ga, 0, none⟩) n capa))
 replace y1 : Blk ((va.setCell ⟨w.heap.size + 1, 0, none⟩ (.bool b)).setCell ⟨w.heap.size + 1, 1, none⟩ (.slice (some ⟨ga, 0, none⟩) n capa)) (w.heap.size + 1) 123 #[.bool b, .slice (some ⟨ga, 0, none⟩) n capa] := ((y1.set_at 0 (.bool b) #[.bool b, .slice none 0 0] (by simp)).set_at 1 (.slice (some ⟨ga, 0, none⟩) n capa) #[.bool b, .slice (some ⟨ga, 0, none⟩) n capa] (by simp))
 replace x1c := ((x1c.fr (w.heap.size + 1) 0 (by omega) (.bool b)).fr (w.heap.size + 1) 1 (by omega) (.slice (some ⟨ga, 0, none⟩) n capa))
 have lw5 : va.heap.size + 0 ≤ ((va.setCell ⟨w.heap.size + 1, 0, none⟩ (.bool b)).setCell ⟨w.heap.size + 1, 1, none⟩ (.slice (some ⟨ga, 0, none⟩) n capa)).heap.size := by simp
 generalize hE5 : ((va.setCell ⟨w.heap.size + 1, 0, none⟩ (.bool b)).setCell ⟨w.heap.size + 1, 1, none⟩ (.slice (some ⟨ga, 0, none⟩) n capa)) = w5 at p5 bw5 lw5 x1a y1 x1c ⊢
 clear hE5
 replace h := h.keep p5
 replace hwa := hwa.keep p5
 obtain ⟨cx1aa, cx1ab, cx1ac⟩ := x1a.c3
 obtain ⟨lx1aa, lx1ab, lx1ac, lx1ad⟩ := lts0 x1a.lt
 obtain ⟨cy1_0, cy1_1⟩ := y1.c2
 obtain ⟨fy1_0, fy1_1⟩ := y1.f2
 obtain ⟨ly1_0, ly1_1, ly1_2, ly1_3⟩ := lts1 y1.lt
 obtain ⟨cx1ca, cx1cb⟩ := x1c.c2
 obtain ⟨fx1ca, fx1cb⟩ := x1c.f2
 obtain ⟨lx1ca, lx1cb, lx1cc, lx1cd⟩ := lts2 x1c.lt
 have hownd := World.ownsRow_lit (e := 82) (size := 1) w5 #[] 0 (Nat.le_refl _) (by simp [maxLen]) rfl
 have hnewsd := ((h.2.2.1).keep ((Kp.refl w5).alloc (.cells #[] 82))).news (by omega) (Nat.le_refl _)
 have hnld : (words (a.den.take m)).length = m * 1 := by rw [words_len, List.length_take]; have := (h.2.2.1).2.1; omega
 have HOd := Lib.hid hownd
 have HNd := Lib.hid hnewsd
 have HNLd := Lib.hid hnld
 clear hownd hnewsd hnld
 have nf0 : ¬ w.heap.size = w.heap.size + 1 := by omega
 have nf1 : ¬ w.heap.size = w.heap.size + 2 := by omega
 have nf2 : ¬ w.heap.size + 1 = w.heap.size + 1 + 1 := by omega
 have nf3 : ¬ w.heap.size = w.heap.size + 1 := by omega
 clear nf3
 go_region_held3 (fun w' => SeesY w5.heap.size (w.heap.size + 1) (w.heap.size + 1 + 1) (.bool b) (.slice (some ⟨ga, 0, none⟩) n capa) w5 w') (first | with_reducible exact SeesY.of (Nat.le_refl _) ((brefl _).drew) y1.lt cy1_0 cy1_1 | with_reducible exact SeesY.of (Nat.le_refl _) (((brefl _).alloc (Nat.le_refl _) _).drew) y1.lt cy1_0 cy1_1 | with_reducible exact SeesY.of (Nat.le_refl _) (by assumption) y1.lt cy1_0 cy1_1 | with_reducible exact (SeesY.set2 (SeesY.of (Nat.le_refl _) (by assumption) y1.lt cy1_0 cy1_1) (.inl ⟨rfl, rfl⟩)) | with_reducible exact (SeesY.set2 (SeesY.set2 (SeesY.of (Nat.le_refl _) (by assumption) y1.lt cy1_0 cy1_1) (.inl ⟨rfl, rfl⟩)) (.inr ⟨rfl, rfl⟩)) | with_reducible exact (SeesY.set3 (SeesY.set2 (SeesY.set2 (SeesY.of (Nat.le_refl _) (by assumption) y1.lt cy1_0 cy1_1) (.inl ⟨rfl, rfl⟩)) (.inr ⟨rfl, rfl⟩)) (by omega)) | with_reducible exact (SeesY.set3 (SeesY.set3 (SeesY.set2 (SeesY.set2 (SeesY.of (Nat.le_refl _) (by assumption) y1.lt cy1_0 cy1_1) (.inl ⟨rfl, rfl⟩)) (.inr ⟨rfl, rfl⟩)) (by omega)) (by omega))) ((refine step_append_lies _ rfl _ _ _ rfl w5.heap.size 82 i0 (.int .u32 0) 1 4 Tryz.underlying70 hi0 hz0 hz1 hz2 rfl (by omega) _ 0 [] rfl (by first | exact HOd.out | exact HOd.out.drew) ⟨gD, oD, none⟩ m e (words (a.den.take m)) rfl HNLd.out HNd.out (words_one _) (by omega) (by unfold maxLen; omega) (by omega) (by simp) (w5.heap.size + 1) (by simp) ?_; intro gd capd vd hownd hgrowd hatd hltd; have qd : Below w5.heap.size w5 vd := (((Below.refl _ _).alloc (Nat.le_refl _) _).drew).grown hgrowd (by simp) (fun b hb => Nat.le_of_eq (Option.some.inj hb)); have z1 : Blk vd (w.heap.size + 1) 123 #[.bool b, .slice (some ⟨ga, 0, none⟩) n capa] := y1.below qd y1.lt; obtain ⟨cz10, cz11⟩ := z1.c2; obtain ⟨fz10, fz11⟩ := z1.f2; have z2 : Blk vd (w.heap.size + 1 + 1) 123 #[.bool false, .slice none 0 0] := x1c.below qd x1c.lt; obtain ⟨cz20, cz21⟩ := z2.c2; obtain ⟨fz20, fz21⟩ := z2.f2))
 simp only [Nat.zero_add, List.nil_append] at hownd
 have hwd : Wd vd (some ⟨gd, 0, none⟩) m capd a.den := by
  have x := Wd.of_own hownd (Wds.take (h.2.2.1).1 m)
  rwa [List.take_of_length_le (Nat.le_of_eq (h.2.2.1).2.1.symm)] at x
 clear hownd hgrowd hatd HOd HNd HNLd
 clear cx1aa cx1ab cx1ac lx1aa lx1ab lx1ac lx1ad cy1_0 fy1_0 cy1_1 fy1_1 ly1_0 ly1_1 ly1_2 ly1_3 cx1ca fx1ca cx1cb fx1cb lx1ca lx1cb lx1cc lx1cd
 replace x1a := x1a.b qd
 replace hwa := hwa.belw qd
 have bwd : Below w.heap.size w vd := bw5.trans (qd.mono bw5.size)
 have lwd : w5.heap.size ≤ vd.heap.size := qd.size
 go_wp2_with fail
 refine bodyPost_ret (v := .tuple #[.agg #[.bool b, .slice (some ⟨ga, 0, none⟩) n capa], .agg #[.bool false, .slice (some ⟨gd, 0, none⟩) m capd]]) (by simp [results, Tryz.results136, go_sem, *] <;> first | rfl | exact ⟨rfl, rfl⟩) rfl ?_
 have kp := (((((Kp.refl vd).sb (w.heap.size + 1) 0 z1.box (by decide) (.bool b)).sb (w.heap.size + 1) 1 (z1.box.set ⟨w.heap.size + 1, 0, none⟩ (.bool b)) (by decide) (.slice (some ⟨ga, 0, none⟩) n capa)).sb (w.heap.size + 1 + 1) 0 ((z2.box.set ⟨w.heap.size + 1, 0, none⟩ (.bool b)).set ⟨w.heap.size + 1, 1, none⟩ (.slice (some ⟨ga, 0, none⟩) n capa)) (by decide) (.bool false)).sb (w.heap.size + 1 + 1) 1 (((z2.box.set ⟨w.heap.size + 1, 0, none⟩ (.bool b)).set ⟨w.heap.size + 1, 1, none⟩ (.slice (some ⟨ga, 0, none⟩) n capa)).set ⟨w.heap.size + 1 + 1, 0, none⟩ (.bool false)) (by decide) (.slice (some ⟨gd, 0, none⟩) m capd))
 exact ⟨b, some ⟨ga, 0, none⟩, n, capa, false, some ⟨gd, 0, none⟩, m, capd, rfl, ⟨h.1.symm.trans HE.out.2.1, HE.out.1 ▸ hwa.keep kp, h.2.2.2.1⟩, ⟨by simp [wh], HE.out.2.2 ▸ hwd.keep kp, h.2.2.2.2⟩, ((((bwd.sc (w.heap.size + 1) 0 (by omega) (.bool b)).sc (w.heap.size + 1) 1 (by omega) (.slice (some ⟨ga, 0, none⟩) n capa)).sc (w.heap.size + 1 + 1) 0 (by omega) (.bool false)).sc (w.heap.size + 1 + 1) 1 (by omega) (.slice (some ⟨gd, 0, none⟩) m capd))⟩
theorem f_parts (w : World) (b : Bool) (A : Option Addr) (n c : Nat) (D : Option Addr) (m e : Nat) (q : Rat) (k : Nat) (h : QZ w b A n c D m e q k) (h0 : 0 < k) (hk : k ≤ 300000000) :
    Calls Tryz.prog 136 #[.agg #[.bool b, .slice A n c, .slice D m e]] w (RetII w q.num q.den k) := by
  obtain ⟨a, h, rfl⟩ := h
  cases ho : a.ok
  · exact f_parts_1 w b A n c D m e a k h h0 hk ho
  · by_cases hn : n = 0
    · exact f_parts_2 w b A n c D m e a k h h0 hk ho hn
    · exact f_parts_3 w b A n c D m e a k h h0 hk ho (h.num_ne (by omega))
end Go.Proofs.YtoiijifnfdgfpaaGreatDoor

/- Walks: fractions, sums and products. -/
namespace Go.Proofs.YtoiijifnfdgfpaaGreatDoor
open Go Go.RowKit Bn
attribute [local go_sem ↓] Go.wp_at_zero Go.wp_at_succ
theorem f_cmp (w : World) (b : Bool) (A : Option Addr) (n c : Nat) (D : Option Addr) (m e : Nat) (q : Rat) (k : Nat) (h : QZ w b A n c D m e q k) (b' : Bool) (A' : Option Addr) (n' c' : Nat) (D' : Option Addr) (m' e' : Nat) (q' : Rat) (k' : Nat) (h' : QZ w b' A' n' c' D' m' e' q' k') (h0 : 0 < k) (hk : k ≤ 40000000) (h0' : 0 < k') (hk' : k' ≤ 40000000) :
    Calls Tryz.prog 149 #[.agg #[.bool b, .slice A n c, .slice D m e], .agg #[.bool b', .slice A' n' c', .slice D' m' e']] w (RetV w (.int .i64 (cmpI (q.num * q'.den) (q'.num * q.den)))) := by
  go_enter Tryz.func149, Tryz.ntmps149
  go_wp2_with fail
  (with_reducible refine (f_parts _ b A n c D m e (q) (k) ?_ ?_ ?_).mono ?_); (exact (h.belw (((Below.refl _ _).alloc (Nat.le_refl _) _).alloc (by simp) _))); (first | omega | decide | assumption); (first | omega | decide | assumption); rintro e w1 ⟨b1, A1, n1, c1, b'1, A'1, n'1, c'1, rfl, h1, h'1, hb1⟩
  have q1 := (((Below.refl _ _).alloc (Nat.le_refl _) _).alloc (by simp) _).trans (hb1.mono (by simp <;> omega))
  replace h := h.belw q1
  replace h' := h'.belw q1
  have x1a : Blk w1 w.heap.size 72 #[.bool b, .slice A n c, .slice D m e] := ((blkAt _ _ _ (by simp)).alloc _).below hb1 (by simp <;> omega)
  have x1b := (blkAt _ _ _ (g := w.heap.size + 1) (by simp)).below hb1 (by simp)
  have bw1 := (brefl w).trans (q1.mono (brefl w).size)
  have lw1 : w.heap.size + 2 ≤ w1.heap.size := by have := hb1.size; simp at this; omega
  clear q1
  obtain ⟨cx1ba, cx1bb, cx1bc⟩ := x1b.c3
  obtain ⟨lx1ba, lx1bb, lx1bc, lx1bd⟩ := lts1 x1b.lt
  go_wp2_with fail
  (with_reducible refine (f_parts _ b' A' n' c' D' m' e' (q') (k') ?_ ?_ ?_).mono ?_); (exact (h'.belw (((Below.refl _ _).alloc (Nat.le_refl _) _).alloc (by simp) _))); (first | omega | decide | assumption); (first | omega | decide | assumption); rintro e w2 ⟨b2, A2, n2, c2, b'2, A'2, n'2, c'2, rfl, h2, h'2, hb2⟩
  clear cx1ba cx1bb cx1bc lx1ba lx1bb lx1bc lx1bd
  have q2 := (((Below.refl _ _).alloc (Nat.le_refl _) _).alloc (by simp) _).trans (hb2.mono (by simp <;> omega))
  replace h := h.belw q2
  replace h' := h'.belw q2
  replace h1 := h1.belw q2
  replace h'1 := h'1.belw q2
  replace x1a := x1a.b q2
  replace x1b := x1b.b q2
  have x2a : Blk w2 w1.heap.size 123 #[.bool b1, .slice A1 n1 c1] := ((blkAt _ _ _ (by simp)).alloc _).below hb2 (by simp <;> omega)
  have x2b := (blkAt _ _ _ (g := w1.heap.size + 1) (by simp)).below hb2 (by simp)
  have bw2 := bw1.trans (q2.mono bw1.size)
  have lw2 : w1.heap.size + 2 ≤ w2.heap.size := by have := hb2.size; simp at this; omega
  clear q2 bw1
  go_wp2_with fail
  have p3 := (((Kp.refl w2).alloc (.cells #[.bool b2, .slice A2 n2 c2] 123)).alloc (.cells #[.bool b'2, .slice A'2 n'2 c'2] 123))
  have bw3 := ((bw2.alloc (by first | omega | (simp <;> omega)) (.cells #[.bool b2, .slice A2 n2 c2] 123)).alloc (by first | omega | (simp <;> omega)) (.cells #[.bool b'2, .slice A'2 n'2 c'2] 123))
  have x3a : Blk ((w2.alloc (.cells #[.bool b2, .slice A2 n2 c2] 123)).alloc (.cells #[.bool b'2, .slice A'2 n'2 c'2] 123)) w2.heap.size 123 #[.bool b2, .slice A2 n2 c2] := ((blkAt _ _ _ (by simp)).alloc (.cells #[.bool b'2, .slice A'2 n'2 c'2] 123))
  have x3b : Blk ((w2.alloc (.cells #[.bool b2, .slice A2 n2 c2] 123)).alloc (.cells #[.bool b'2, .slice A'2 n'2 c'2] 123)) (w2.heap.size + 1) 123 #[.bool b'2, .slice A'2 n'2 c'2] := (blkAt _ _ _ (by simp))
  replace x1a := ((x1a.alloc (.cells #[.bool b2, .slice A2 n2 c2] 123)).alloc (.cells #[.bool b'2, .slice A'2 n'2 c'2] 123))
  replace x1b := ((x1b.alloc (.cells #[.bool b2, .slice A2 n2 c2] 123)).alloc (.cells #[.bool b'2, .slice A'2 n'2 c'2] 123))
  replace x2a := ((x2a.alloc (.cells #[.bool b2, .slice A2 n2 c2] 123)).alloc (.cells #[.bool b'2, .slice A'2 n'2 c'2] 123))
  replace x2b := ((x2b.alloc (.cells #[.bool b2, .slice A2 n2 c2] 123)).alloc (.cells #[.bool b'2, .slice A'2 n'2 c'2] 123))
  have lw3 : w2.heap.size + 2 ≤ ((w2.alloc (.cells #[.bool b2, .slice A2 n2 c2] 123)).alloc (.cells #[.bool b'2, .slice A'2 n'2 c'2] 123)).heap.size := by simp
  generalize hE3 : ((w2.alloc (.cells #[.bool b2, .slice A2 n2 c2] 123)).alloc (.cells #[.bool b'2, .slice A'2 n'2 c'2] 123)) = w3 at p3 bw3 lw3 x3a x3b x1a x1b x2a x2b ⊢
  clear hE3
  replace h := h.keep p3
  replace h' := h'.keep p3
  replace h1 := h1.keep p3
  replace h'1 := h'1.keep p3
  replace h2 := h2.keep p3
  replace h'2 := h'2.keep p3
  clear bw2
  obtain ⟨lx1aa, lx1ab, lx1ac, lx1ad⟩ := lts0 x1a.lt
  obtain ⟨lx1ba, lx1bb, lx1bc, lx1bd⟩ := lts1 x1b.lt
  obtain ⟨cx2aa, cx2ab⟩ := x2a.c2
  obtain ⟨lx2aa, lx2ab, lx2ac, lx2ad⟩ := lts0 x2a.lt
  obtain ⟨cx2ba, cx2bb⟩ := x2b.c2
  obtain ⟨lx2ba, lx2bb, lx2bc, lx2bd⟩ := lts1 x2b.lt
  obtain ⟨cx3aa, cx3ab⟩ := x3a.c2
  obtain ⟨lx3aa, lx3ab, lx3ac, lx3ad⟩ := lts0 x3a.lt
  obtain ⟨cx3ba, cx3bb⟩ := x3b.c2
  obtain ⟨lx3ba, lx3bb, lx3bc, lx3bd⟩ := lts1 x3b.lt
  go_region_held3 (fun w' => Sees w3.heap.size w3 w') (first | with_reducible exact Sees.of (Nat.le_refl _) (by assumption) | with_reducible exact Sees.of (Nat.le_refl _) (brefl _).drew | exact Sees.of (Nat.le_refl _) (below_drewN (brefl _) 1) | exact Sees.of (Nat.le_refl _) (below_drewN (by assumption) _))
    (first
      | (go_at_call 129; (with_reducible refine (i_mul _ b1 A1 n1 c1 ((q).num) ((k)) ?_ b'2 A'2 n'2 c'2 (((q').den : Int)) ((k')) ?_ ?_).mono ?_); (exact h1.iz); (exact h'2.iz); (first | omega | decide | assumption); rintro e w4 ⟨b4, A4, n4, c4, rfl, h4, hb4⟩; replace hb4 := bnext (below_drewN (brefl _) 1) hb4; have q4 : Below w3.heap.size w3 w4 := bnext (brefl w3) hb4; replace h := h.belw hb4; replace h' := h'.belw hb4; replace h1 := h1.belw hb4; replace h'1 := h'1.belw hb4; replace h2 := h2.belw hb4; replace h'2 := h'2.belw hb4)
      | (go_at_call 129; (with_reducible refine (i_mul _ b2 A2 n2 c2 ((q').num) ((k')) ?_ b'1 A'1 n'1 c'1 (((q).den : Int)) ((k)) ?_ ?_).mono ?_); (exact h2.iz); (exact h'1.iz); (first | omega | decide | assumption); rintro e w5 ⟨b5, A5, n5, c5, rfl, h5, hb5⟩; have q5 : Below w3.heap.size w3 w5 := bnext q4 hb5; replace h := h.belw hb5; replace h' := h'.belw hb5; replace h1 := h1.belw hb5; replace h'1 := h'1.belw hb5; replace h2 := h2.belw hb5; replace h'2 := h'2.belw hb5; replace h4 := h4.belw hb5)
      | (go_at_call 71; (with_reducible refine (i_cmp _ b4 A4 n4 c4 (((q).num) * (((q').den : Int))) (((k)) + ((k'))) ?_ b5 A5 n5 c5 (((q').num) * (((q).den : Int))) (((k')) + ((k))) ?_ ?_).mono ?_); (exact h4.iz); (exact h5.iz); (first | omega | decide | assumption); rintro e w6 ⟨rfl, hb6⟩; have q6 : Below w3.heap.size w3 w6 := bnext q5 hb6; replace h := h.belw hb6; replace h' := h'.belw hb6; replace h1 := h1.belw hb6; replace h'1 := h'1.belw hb6; replace h2 := h2.belw hb6; replace h'2 := h'2.belw hb6; replace h4 := h4.belw hb6; replace h5 := h5.belw hb6))
  have bw6 := bw3.trans (q6.mono bw3.size)
  clear lx1aa lx1ab lx1ac lx1ad lx1ba lx1bb lx1bc lx1bd cx2aa cx2ab lx2aa lx2ab lx2ac lx2ad cx2ba cx2bb lx2ba lx2bb lx2bc lx2bd cx3aa cx3ab lx3aa lx3ab lx3ac lx3ad cx3ba cx3bb lx3ba lx3bb lx3bc lx3bd
  replace x1a := x1a.b q6
  replace x1b := x1b.b q6
  replace x2a := x2a.b q6
  replace x2b := x2b.b q6
  replace x3a := x3a.b q6
  replace x3b := x3b.b q6
  have lw6 := q6.size
  go_wp2_with fail
  go_ret
  exact retI rfl bw6
theorem f_from (w : World) (b : Bool) (A : Option Addr) (n c : Nat) (z : Int) (k : Nat) (h : IZ w b A n c z k) (b' : Bool) (A' : Option Addr) (n' c' : Nat) (z' : Int) (k' : Nat) (h' : IZ w b' A' n' c' z' k') (q : Rat) (K : Nat) (hd : z' ≠ 0) (hq : Rat.divInt z z' = q) (hs : Sz q K) (hk : k + k' ≤ 300000000) :
  Calls Tryz.prog 194 #[.agg #[.bool b, .slice A n c], .agg #[.bool b', .slice A' n' c']] w (RetFe w .nilIface q K) := by
 obtain ⟨s, hs1⟩ : ∃ s, z'.sign = s := ⟨_, rfl⟩
 have e0 : ((s : Int) == 0) = false := by simp; rintro rfl; exact hd (Int.sign_eq_zero_iff_zero.1 hs1)
 have HS1 := Lib.hid hs1
 have HD := Lib.hid hd
 have HQ := Lib.hid hq
 have HS := Lib.hid hs
 clear hs1 hd hq hs
 go_enter Tryz.func194, Tryz.ntmps194
 go_wp2_with fail
 (with_reducible refine (i_sign_e _ b' A' n' c' (z') (k') ?_ s ?_ ?_).mono ?_); (exact (h'.belw ((((Below.refl _ _).alloc (Nat.le_refl _) _).alloc (by simp) _).alloc (by simp <;> omega) _))); (exact HS1.out); (omega); rintro e w1 ⟨rfl, hb1⟩
 have q1 := ((((Below.refl _ _).alloc (Nat.le_refl _) _).alloc (by simp) _).alloc (by simp <;> omega) _).trans (hb1.mono (by simp <;> omega))
 replace h := h.belw q1
 replace h' := h'.belw q1
 have x1a : Blk w1 w.heap.size 123 #[.bool b, .slice A n c] := (((blkAt _ _ _ (by simp)).alloc _).alloc _).below hb1 (by simp <;> omega)
 have x1b := ((blkAt _ _ _ (g := w.heap.size + 1) (by simp)).alloc _).below hb1 (by simp <;> omega)
 have x1c := (blkAt _ _ _ (g := w.heap.size + 1 + 1) (by simp)).below hb1 (by simp)
 have bw1 := (brefl w).trans (q1.mono (brefl w).size)
 have lw1 : w.heap.size + 3 ≤ w1.heap.size := by have := hb1.size; simp at this; omega
 clear q1
 obtain ⟨cx1aa, cx1ab⟩ := x1a.c2
 obtain ⟨lx1aa, lx1ab, lx1ac, lx1ad⟩ := lts0 x1a.lt
 obtain ⟨cx1ba, cx1bb⟩ := x1b.c2
 obtain ⟨lx1ba, lx1bb, lx1bc, lx1bd⟩ := lts1 x1b.lt
 go_wp2_with fail
 (with_reducible refine (f_form _ b A n c (z) (k) ?_ b' A' n' c' (z') (k') ?_ q K ?_ ?_ ?_ ?_).mono ?_); (exact h); (exact h'); (exact HD.out); (exact HQ.out); (exact HS.out); (omega); rintro e w2 ⟨b2, A2, n2, c2, A'2, n'2, c'2, rfl, h2, q2⟩
 clear cx1aa cx1ab lx1aa lx1ab lx1ac lx1ad cx1ba cx1bb lx1ba lx1bb lx1bc lx1bd
 replace h := h.belw q2
 replace h' := h'.belw q2
 replace x1a := x1a.b q2
 replace x1b := x1b.b q2
 replace x1c := x1c.b q2
 have bw2 := bw1.trans (q2.mono bw1.size)
 have lw2 := q2.size
 clear q2 bw1
 obtain ⟨cx1ca, cx1cb, cx1cc⟩ := x1c.c3
 obtain ⟨fx1ca, fx1cb, fx1cc⟩ := x1c.f3
 obtain ⟨lx1ca, lx1cb, lx1cc, lx1cd⟩ := lts2 x1c.lt
 go_wp2_with fail
 refine bodyPost_ret (v := .tuple #[.agg #[.bool b2, .slice A2 n2 c2, .slice A'2 n'2 c'2], .nilIface]) (by simp [results, Tryz.results194, go_sem, *] <;> first | rfl | exact ⟨rfl, rfl⟩) rfl ?_
 exact ⟨b2, A2, n2, c2, A'2, n'2, c'2, rfl, h2.keep ((((Kp.refl w2).sb (w.heap.size + 1 + 1) 0 x1c.box (by decide) (.bool b2)).sb (w.heap.size + 1 + 1) 1 (x1c.box.set ⟨w.heap.size + 1 + 1, 0, none⟩ (.bool b2)) (by decide) (.slice A2 n2 c2)).sb (w.heap.size + 1 + 1) 2 ((x1c.box.set ⟨w.heap.size + 1 + 1, 0, none⟩ (.bool b2)).set ⟨w.heap.size + 1 + 1, 1, none⟩ (.slice A2 n2 c2)) (by decide) (.slice A'2 n'2 c'2)), (((bw2.sc (w.heap.size + 1 + 1) 0 (by omega) (.bool b2)).sc (w.heap.size + 1 + 1) 1 (by omega) (.slice A2 n2 c2)).sc (w.heap.size + 1 + 1) 2 (by omega) (.slice A'2 n'2 c'2))⟩
end Go.Proofs.YtoiijifnfdgfpaaGreatDoor

/- Rotations with rational half-angle tangents, in plain fractions. -/
namespace Bn
structure TN where
  t : Rat
  h : Bool
deriving DecidableEq
def TN.ok (a : TN) : Prop := a.h = true → a.t = 0
/-! ### order -/
def rcmp (a b : Rat) : Int := if a < b then -1 else if a = b then 0 else 1
theorem rcmp_zero {a b : Rat} : rcmp a b = 0 ↔ a = b := by
  unfold rcmp
  split
  · grind
  · split
    · simpa
    · simpa
end Bn

/- Cells that are only read; turns as values. -/
namespace Go.Proofs.YtoiijifnfdgfpaaGreatDoor
open Go Go.RowKit Bn
def Rd (w : World) (g : Nat) (cs : Array Value) : Prop := g < w.heap.size ∧ ∀ i, i < cs.size → w.cell? ⟨g, i, none⟩ = cs[i]?
section
variable {w w' : World} {g : Nat} {cs : Array Value}
theorem Rd.lt (h : Rd w g cs) : g < w.heap.size := h.1
theorem Rd.cell (h : Rd w g cs) (i : Nat) (hi : i < cs.size) : w.cell? ⟨g, i, none⟩ = cs[i]? := h.2 i hi
theorem Rd.below {B : Nat} (h : Rd w g cs) (hb : Below B w w') (hg : g < B) : Rd w' g cs := by
  refine ⟨?_, fun i hi => ?_⟩
  · have := hb.block g hg
    rcases Nat.lt_or_ge g w'.heap.size with h1 | h1
    · exact h1
    · rw [Array.getElem?_eq_none h1, Array.getElem?_eq_getElem h.1] at this; cases this
  · rw [← h.2 i hi]; unfold World.cell?; rw [hb.block g hg]
theorem Rd.alloc (h : Rd w g cs) (o : Obj) : Rd (w.alloc o) g cs := by
  refine ⟨by have := h.1; simp; omega, fun i hi => ?_⟩
  rw [← h.2 i hi]; unfold World.cell?; rw [Below.heap_alloc w o g h.1]
theorem Rd.far (h : Rd w g cs) {p : Addr} (hp : g ≠ p.block) (u : Value) : Rd (w.setCell p u) g cs := by
  refine ⟨by have := h.1; simp [World.setCell]; exact this, fun i hi => ?_⟩
  rw [← h.2 i hi]; unfold World.cell?; rw [Below.heap_setCell w p u g hp]
end
abbrev SeesB (G : Nat) (W0 W : World) : Prop := ((∀ b o, b < G → W.cell? ⟨b, o, none⟩ = W0.cell? ⟨b, o, none⟩) ∧ (∀ b o, b < G → W.frozen? ⟨b, o, none⟩ = W0.frozen? ⟨b, o, none⟩)) ∧ G ≤ W.heap.size
theorem SeesB.of {W0 W : World} (hb : Below W0.heap.size W0 W) : SeesB W0.heap.size W0 W := Sees.of (Nat.le_refl _) hb

abbrev SeesZ (G g g' : Nat) (W0 W : World) : Prop := ((∀ b o, b < G → b ≠ g → b ≠ g' → W.cell? ⟨b, o, none⟩ = W0.cell? ⟨b, o, none⟩) ∧ (∀ b o, b < G → W.frozen? ⟨b, o, none⟩ = W0.frozen? ⟨b, o, none⟩)) ∧ G ≤ W.heap.size
theorem SeesZ.of {G g g' : Nat} {W0 W : World} (h : G ≤ W0.heap.size) (hb : Below W0.heap.size W0 W) : SeesZ G g g' W0 W :=
  ⟨⟨fun b o hlt _ _ => (bcell hb).1 b o (Nat.lt_of_lt_of_le hlt h), fun b o hlt => (bcell hb).2 b o (Nat.lt_of_lt_of_le hlt h)⟩, Nat.le_trans h hb.size⟩
theorem SeesZ.set2 {G g g' : Nat} {W0 W : World} (h : SeesZ G g g' W0 W) {i : Nat} {u : Value} : SeesZ G g g' W0 (W.setCell ⟨g', i, none⟩ u) := by
  refine ⟨⟨fun b o hlt hne hne' => ?_, fun b o hlt => ?_⟩, ?_⟩
  · rw [← h.1.1 b o hlt hne hne']; unfold World.cell?; rw [Below.heap_setCell _ _ _ b hne']
  · rw [← h.1.2 b o hlt]; exact World.frozen?_setCell ..
  · have := h.2; simp [World.setCell]; exact this
def QK (w : World) (b : Bool) (A : Option Addr) (n c : Nat) (D : Option Addr) (m e : Nat) (q : Rat) (k : Nat) : Prop := ∃ a, QD w b A n c D m e a k ∧ a.q = q ∧ a.ok = true
section
variable {w w' : World} {b x : Bool} {A D : Option Addr} {n c m e k j : Nat} {q : Rat} {t : TN}
theorem QK.qz (h : QK w b A n c D m e q k) : QZ w b A n c D m e q k := by obtain ⟨a, h1, h2, _⟩ := h; exact ⟨a, h1, h2⟩
theorem QV.qk (h : QV w b A n c D m e q k) : QK w b A n c D m e q k := ⟨_, h, rd_q q, rd_ok q⟩
theorem QK.belw (h : QK w b A n c D m e q k) (hb : Below w.heap.size w w') : QK w' b A n c D m e q k := by obtain ⟨a, h1, h2⟩ := h; exact ⟨a, h1.belw hb, h2⟩
theorem QK.keep (h : QK w b A n c D m e q k) (hb : Kp w w') : QK w' b A n c D m e q k := by obtain ⟨a, h1, h2⟩ := h; exact ⟨a, h1.keep hb, h2⟩
theorem QK.mono (h : QK w b A n c D m e q k) (hk : k ≤ j) : QK w b A n c D m e q j := by obtain ⟨a, h1, h2⟩ := h; exact ⟨a, h1.mono hk, h2⟩
def TK (w : World) (b : Bool) (A : Option Addr) (n c : Nat) (D : Option Addr) (m e : Nat) (x : Bool) (t : TN) (k : Nat) : Prop := QK w b A n c D m e t.t k ∧ x = t.h ∧ t.ok
def TV (w : World) (b : Bool) (A : Option Addr) (n c : Nat) (D : Option Addr) (m e : Nat) (x : Bool) (t : TN) (k : Nat) : Prop := QV w b A n c D m e t.t k ∧ x = t.h ∧ t.ok
theorem TV.tk (h : TV w b A n c D m e x t k) : TK w b A n c D m e x t k := ⟨h.1.qk, h.2⟩
theorem TK.belw (h : TK w b A n c D m e x t k) (hb : Below w.heap.size w w') : TK w' b A n c D m e x t k := ⟨h.1.belw hb, h.2⟩
theorem TK.keep (h : TK w b A n c D m e x t k) (hb : Kp w w') : TK w' b A n c D m e x t k := ⟨h.1.keep hb, h.2⟩
theorem TV.belw (h : TV w b A n c D m e x t k) (hb : Below w.heap.size w w') : TV w' b A n c D m e x t k := ⟨h.1.belw hb, h.2⟩
theorem TV.keep (h : TV w b A n c D m e x t k) (hb : Kp w w') : TV w' b A n c D m e x t k := ⟨h.1.keep hb, h.2⟩
theorem TK.mono (h : TK w b A n c D m e x t k) (hk : k ≤ j) : TK w b A n c D m e x t j := ⟨h.1.mono hk, h.2⟩
theorem TK.qk (h : TK w b A n c D m e x t k) : QK w b A n c D m e t.t k := h.1
theorem TK.qz (h : TK w b A n c D m e x t k) : QZ w b A n c D m e t.t k := h.1.qz
theorem TV.qk (h : TV w b A n c D m e x t k) : QK w b A n c D m e t.t k := h.1.qk
theorem TV.qz (h : TV w b A n c D m e x t k) : QZ w b A n c D m e t.t k := h.1.qz
theorem TV.mono (h : TV w b A n c D m e x t k) (hk : k ≤ j) : TV w b A n c D m e x t j := ⟨h.1.mono hk, h.2⟩
end
end Go.Proofs.YtoiijifnfdgfpaaGreatDoor

/- A region that draws its order, walked operation by operation: what each one leaves stays true. -/
namespace Go.Proofs.YtoiijifnfdgfpaaGreatDoor
open Go Go.RowKit Bn

theorem count_set_lt {l : List Bool} {i : Nat} (h : l[i]? = some false) : (l.set i true).count false + 1 = l.count false := by
  induction l generalizing i with
  | nil => simp at h
  | cons b l ih =>
    cases i with
    | zero => simp at h; subst h; simp
    | succ i =>
      simp only [List.getElem?_cons_succ] at h
      have := ih h
      simp only [List.set_cons_succ, List.count_cons]
      omega
section
variable {P : Program} {ops : Array Oper} {Q : Exit → Act → World → Prop} {md : Region.Mode}
theorem ready_get {L : Array Bool} {i : Nat} (h : i ∈ Region.ready md ops L) : L.toList[i]? = some false := by
  have h1 := (mem_ready.1 h).1
  rcases Nat.lt_or_ge i L.size with h2 | h2
  · rw [Array.getD_eq_getD_getElem?, Array.getElem?_eq_getElem h2] at h1
    simp only [Option.getD_some] at h1
    rw [Array.getElem?_toList, Array.getElem?_eq_getElem h2, h1]
  · rw [Array.getD_eq_getD_getElem?, Array.getElem?_eq_none h2] at h1; cases h1
theorem wpAny_inv (A : Array Bool → Act → World → Prop)
    (hstep : ∀ L a w i, L.size = ops.size → i ∈ Region.ready md ops L → A L a w → wpOp P ops Q i (A (L.setIfInBounds i true)) a w)
    (hend : ∀ L a w, L.size = ops.size → Region.ready md ops L = [] → A L a w → Q .normal a w) :
    ∀ (fuel : Nat) (L : Array Bool) (a : Act) (w : World), L.size = ops.size → L.toList.count false ≤ fuel → A L a w → wpAny P md ops Q fuel L a w := by
  intro fuel
  induction fuel with
  | zero =>
    intro L a w hs hc hA
    have hr : Region.ready md ops L = [] := by
      cases hr : Region.ready md ops L with
      | nil => rfl
      | cons i r =>
        have h1 := ready_get (md := md) (ops := ops) (L := L) (i := i) (by rw [hr]; simp)
        have h2 := count_set_lt h1
        omega
    exact ⟨hr, hend L a w hs hr hA⟩
  | succ fuel ih =>
    intro L a w hs hc hA
    refine ⟨fun hr => hend L a w hs hr hA, fun i hi => wpOp_mono (fun a' w' h' => ih _ _ _ (by simpa using hs) ?_ h') (hstep L a w i hs hi hA)⟩
    have h2 := count_set_lt (ready_get hi)
    rw [Array.toList_setIfInBounds]
    omega
end
def setFrom (w : World) (g : Nat) : Nat → List Value → World
  | _, [] => w
  | i, u :: us => setFrom (w.setCell ⟨g, i, none⟩ u) g (i + 1) us
def setL (c : Array Value) : Nat → List Value → Array Value
  | _, [] => c
  | i, u :: us => setL (c.setIfInBounds i u) (i + 1) us
section
variable {g : Nat} {t : TypeId}
theorem setFrom_blk : ∀ (us : List Value) (i : Nat) (w : World) (c : Array Value), Blk w g t c → Blk (setFrom w g i us) g t (setL c i us) := by
  intro us
  induction us with
  | nil => intro i w c h; exact h
  | cons u us ih => intro i w c h; exact ih (i + 1) _ _ (h.set_ i u)
theorem setFrom_far {g' : Nat} {t' : TypeId} {c' : Array Value} (hg : g' ≠ g) : ∀ (us : List Value) (i : Nat) (w : World), Blk w g' t' c' → Blk (setFrom w g i us) g' t' c' := by
  intro us
  induction us with
  | nil => intro i w h; exact h
  | cons u us ih => intro i w h; exact ih (i + 1) _ (h.far hg u)
theorem setFrom_below {B : Nat} {a : World} (hg : B ≤ g) : ∀ (us : List Value) (i : Nat) (w : World), Below B a w → Below B a (setFrom w g i us) := by
  intro us
  induction us with
  | nil => intro i w h; exact h
  | cons u us ih => intro i w h; exact ih (i + 1) _ (h.setCell (p := ⟨g, i, none⟩) hg u)
end
theorem setFrom_size {g : Nat} : ∀ (us : List Value) (i : Nat) (w : World), (setFrom w g i us).heap.size = w.heap.size := by
  intro us
  induction us with
  | nil => intro i w; rfl
  | cons u us ih => intro i w; rw [setFrom, ih]; simp [World.setCell]
structure Flt where
  a : Nat
  s : Nat
  T : TypeId
  Z : Array Value
  PS : Array Value → World → Prop
  [hZ : NoU Z]
structure Own where
  g : Nat
  s : Nat
  o : Nat
  T : TypeId
  Z : Array Value
  PS : Array Value → World → Prop
  [hZ : NoU Z]
def upd (x : Nat → Value) (i : Nat) (v : Value) : Nat → Value := fun j => if j = i then v else x j
theorem upd_same (x : Nat → Value) (i : Nat) (v : Value) : upd x i v i = v := by simp [upd]
theorem upd_ne (x : Nat → Value) {i j : Nat} (v : Value) (h : j ≠ i) : upd x i v j = x j := by simp [upd, h]

section
variable (P : Program) (ops : Array Oper) (Q : Exit → Act → World → Prop) (fr : (Nat → Value) → Act) (R : Nat → Value → World → Prop) (es : List Flt) (ow : List Own) (B : Nat) (W : World)
end
theorem getD_set {L : Array Bool} {i j : Nat} (hi : i < L.size) : (L.setIfInBounds i true).getD j false = (decide (j = i) || L.getD j false) := by
  rw [Array.getD_eq_getD_getElem?, Array.getD_eq_getD_getElem?, Array.getElem?_setIfInBounds]
  by_cases h : i = j
  · subst h; simp [hi]
  · rw [if_neg h]; simp [show ¬ j = i from fun e => h e.symm]
section
variable {P : Program} {ops : Array Oper} {Q : Exit → Act → World → Prop} {fr : (Nat → Value) → Act} {R : Nat → Value → World → Prop} {es : List Flt} {ow : List Own} {B : Nat}
end

def EachFrom (S : Nat → Oper → Prop) : Nat → List Oper → Prop
  | _, [] => True
  | k, o :: l => S k o ∧ EachFrom S (k + 1) l
theorem each_from {S : Nat → Oper → Prop} : ∀ (l : List Oper) (k : Nat), EachFrom S k l → ∀ i o, l[i]? = some o → S (k + i) o := by
  intro l
  induction l with
  | nil => intro k _ i o h; simp at h
  | cons a l ih =>
    intro k h i o ho
    cases i with
    | zero => simp at ho; subst ho; exact h.1
    | succ i =>
      have := ih (k + 1) h.2 i o (by simpa using ho)
      rw [show k + (i + 1) = k + 1 + i by omega]; exact this
theorem each_of {S : Nat → Oper → Prop} {l : List Oper} (h : EachFrom S 0 l) : ∀ i o, (l.toArray)[i]? = some o → S i o := fun i o ho => by
  have := each_from l 0 h i o (by simpa using ho)
  rwa [Nat.zero_add] at this
def acycB : Nat → List Oper → Bool
  | _, [] => true
  | k, o :: l => o.after.all (fun e => !Region.binds .any e || decide (e.on < k)) && acycB (k + 1) l
theorem acyc_from : ∀ (l : List Oper) (k : Nat), acycB k l = true → EachFrom (fun i o => ∀ e ∈ o.after, Region.binds .any e = true → e.on < i) k l := by
  intro l
  induction l with
  | nil => intro k _; trivial
  | cons a l ih =>
    intro k h
    simp only [acycB, Bool.and_eq_true] at h
    refine ⟨fun e he hb => ?_, ih _ h.2⟩
    have := (Array.all_eq_true_iff_forall_mem.1 h.1) e he
    rw [hb] at this
    simpa using this
def Stab (p : Value → World → Prop) : Prop := ∀ v w w', p v w → Kp w w' → p v w'
def AllStab : List (Value → World → Prop) → Prop
  | [] => True
  | p :: l => Stab p ∧ AllStab l
theorem AllStab.get : ∀ (l : List (Value → World → Prop)), AllStab l → ∀ i v w w', l.getD i (fun _ _ => True) v w → Kp w w' → l.getD i (fun _ _ => True) v w' := by
  intro l
  induction l with
  | nil => intro _ i v w w' _ _; simp
  | cons p l ih =>
    intro h i v w w' hp hk
    cases i with
    | zero => exact h.1 v w w' hp hk
    | succ i => exact ih h.2 i v w w' hp hk
def PEq (u : Value) : Value → World → Prop := fun v _ => v = u
def PAny : Value → World → Prop := fun _ _ => True
def PV (w : World) (b : Bool) (A : Option Addr) (n c : Nat) (D : Option Addr) (m e : Nat) (b' : Bool) (A' : Option Addr) (n' c' : Nat) (D' : Option Addr) (m' e' : Nat) (q : Rat) (k : Nat) (r : Rat) (j : Nat) : Prop := QV w b A n c D m e q k ∧ QV w b' A' n' c' D' m' e' r j
theorem PV.keep {w w' : World} {b b' : Bool} {A D A' D' : Option Addr} {n c m e n' c' m' e' k j : Nat} {q r : Rat} (h : PV w b A n c D m e b' A' n' c' D' m' e' q k r j) (hk : Kp w w') : PV w' b A n c D m e b' A' n' c' D' m' e' q k r j := ⟨h.1.keep hk, h.2.keep hk⟩
theorem PV.belw {w w' : World} {b b' : Bool} {A D A' D' : Option Addr} {n c m e n' c' m' e' k j : Nat} {q r : Rat} (h : PV w b A n c D m e b' A' n' c' D' m' e' q k r j) (hk : Below w.heap.size w w') : PV w' b A n c D m e b' A' n' c' D' m' e' q k r j := ⟨h.1.belw hk, h.2.belw hk⟩
end Go.Proofs.YtoiijifnfdgfpaaGreatDoor

/- Walks: sums of turns. -/
namespace Go.Proofs.YtoiijifnfdgfpaaGreatDoor
open Go Go.RowKit Bn
attribute [local go_sem ↓] Go.wp_at_zero Go.wp_at_succ
theorem QK.qv {w : World} {b : Bool} {A D : Option Addr} {n c m e k : Nat} {q : Rat} (h : QK w b A n c D m e q k) : QV w b A n c D m e q k := by
  obtain ⟨a, h1, rfl, h2⟩ := h
  unfold QV; rw [rd_of_ok h1.2.1.1 h1.2.2.1.1 h2]; exact h1
theorem TK.tv {w : World} {b x : Bool} {A D : Option Addr} {n c m e k : Nat} {t : TN} (h : TK w b A n c D m e x t k) : TV w b A n c D m e x t k := ⟨h.1.qv, h.2⟩
end Go.Proofs.YtoiijifnfdgfpaaGreatDoor

/- Walks: the first error of some turns. -/
namespace Go.Proofs.YtoiijifnfdgfpaaGreatDoor
open Go Go.RowKit Bn
attribute [local go_sem ↓] Go.wp_at_zero Go.wp_at_succ
def Ts (w : World) (g n k : Nat) : Prop := g < w.heap.size ∧ ∀ i, i < n → ∃ b A m c D m' e x t, w.cell? ⟨g, i * 4, none⟩ = some (.bool b) ∧ w.cell? ⟨g, i * 4 + 1, none⟩ = some (.slice A m c) ∧ w.cell? ⟨g, i * 4 + 2, none⟩ = some (.slice D m' e) ∧ w.cell? ⟨g, i * 4 + 3, none⟩ = some (.bool x) ∧ TK w b A m c D m' e x t k
theorem Ts.belw {w w' : World} {g n k : Nat} (h : Ts w g n k) (hb : Below w.heap.size w w') : Ts w' g n k := by
  obtain ⟨hg, h⟩ := h
  have hc := (bcell hb).1
  refine ⟨Nat.lt_of_lt_of_le hg hb.size, fun i hi => ?_⟩
  obtain ⟨b, A, m, c, D, m', e, x, t, h1, h2, h3, h4, h5⟩ := h i hi
  exact ⟨b, A, m, c, D, m', e, x, t, (hc _ _ hg).trans h1, (hc _ _ hg).trans h2, (hc _ _ hg).trans h3, (hc _ _ hg).trans h4, h5.belw hb⟩
end Go.Proofs.YtoiijifnfdgfpaaGreatDoor

/- Walks: the laws' own small functions: short, good. -/
namespace Go.Proofs.YtoiijifnfdgfpaaGreatDoor
open Go Go.RowKit Bn
attribute [local go_sem ↓] Go.wp_at_zero Go.wp_at_succ
def Rs (w : World) (g N : Nat) (ns ms : Nat → Nat) : Prop := g < w.heap.size ∧ ∀ i, i < N → ∃ b A c D e, w.cell? ⟨g, i * 3, none⟩ = some (.bool b) ∧ w.cell? ⟨g, i * 3 + 1, none⟩ = some (.slice A (ns i) c) ∧ w.cell? ⟨g, i * 3 + 2, none⟩ = some (.slice D (ms i) e)
theorem Rs.belw {w w' : World} {g N : Nat} {ns ms : Nat → Nat} (h : Rs w g N ns ms) (hb : Below w.heap.size w w') : Rs w' g N ns ms := by
  obtain ⟨hg, h⟩ := h
  have hc := (bcell hb).1
  refine ⟨Nat.lt_of_lt_of_le hg hb.size, fun i hi => ?_⟩
  obtain ⟨b, A, c, D, e, h1, h2, h3⟩ := h i hi
  exact ⟨b, A, c, D, e, (hc _ _ hg).trans h1, (hc _ _ hg).trans h2, (hc _ _ hg).trans h3⟩
def Gs (w : World) (g N k : Nat) (rs : Nat → RD) (xs : Nat → Bool) : Prop := g < w.heap.size ∧ ∀ i, i < N → ∃ b A m c D m' e, w.cell? ⟨g, i * 4, none⟩ = some (.bool b) ∧ w.cell? ⟨g, i * 4 + 1, none⟩ = some (.slice A m c) ∧ w.cell? ⟨g, i * 4 + 2, none⟩ = some (.slice D m' e) ∧ w.cell? ⟨g, i * 4 + 3, none⟩ = some (.bool (xs i)) ∧ QD w b A m c D m' e (rs i) k
theorem Gs.belw {w w' : World} {g N k : Nat} {rs : Nat → RD} {xs : Nat → Bool} (h : Gs w g N k rs xs) (hb : Below w.heap.size w w') : Gs w' g N k rs xs := by
  obtain ⟨hg, h⟩ := h
  have hc := (bcell hb).1
  refine ⟨Nat.lt_of_lt_of_le hg hb.size, fun i hi => ?_⟩
  obtain ⟨b, A, m, c, D, m', e, h1, h2, h3, h4, h5⟩ := h i hi
  exact ⟨b, A, m, c, D, m', e, (hc _ _ hg).trans h1, (hc _ _ hg).trans h2, (hc _ _ hg).trans h3, (hc _ _ hg).trans h4, h5.belw hb⟩
end Go.Proofs.YtoiijifnfdgfpaaGreatDoor

/- Walks: equal fields of equal fractions. -/
namespace Go.Proofs.YtoiijifnfdgfpaaGreatDoor
open Go Go.RowKit Bn
attribute [local go_sem ↓] Go.wp_at_zero Go.wp_at_succ
theorem b_words (w : World) (A : Option Addr) (n c : Nat) (l : List Nat) (wa : Wd w A n c l) (A' : Option Addr) (n' c' : Nat) (wb : Wd w A' n' c' l) (hn : n ≤ 1000000000) :
  Calls Tryz.prog 80 #[.slice A n c, .slice A' n' c'] w (RetV w (.bool true)) := by
 have hnn : n' = n := by rw [wa.2.1, wb.2.1]
 subst hnn
 have HA := Lib.hid wa
 have HB := Lib.hid wb
 clear wa wb
 go_enter Tryz.func80, Tryz.ntmps80
 go_wp2_with fail
 go_loopw [5] (fun iv wr => ∃ (i q : Nat), i ≤ n' ∧ iv = .int .i64 (i : Nat) ∧ wr = w.drewN q) (fun iv _ => n' - (intOf iv).toNat)
 case atStart => exact ⟨0, 0, Nat.zero_le _, rfl, rfl⟩
 case round =>
  obtain ⟨i, q, hi, rfl, rfl⟩ := hrel
  by_cases hlt : i < n'
  ·obtain ⟨g, o, rfl, hc1⟩ := HA.out.at_ (by omega)
   obtain ⟨g', o', rfl, hc2⟩ := HB.out.at_ (by omega)
   have h1 := hc1 i hlt
   have h2 := hc2 i hlt
   have hi0 : (0 : Int) ≤ (i : Int) := by omega
   have hi1 : (i : Int) < (n' : Int) := by omega
   generalize wd l i = x at h1 h2
   clear hc1 hc2
   go_wp2_with fail
   go_quiet (fail)
   go_wp2
   go_roundw
   case rel => exact ⟨i + 1, _, by omega, by go_num, rfl⟩
   case measure => simp [intOf]; omega
  ·go_wp2
   go_ret
   exact retB rfl (by repeat (first | exact Below.refl _ _ | refine below_drewN ?_ _))
end Go.Proofs.YtoiijifnfdgfpaaGreatDoor

/- Decimal texts: plain numbers and lists of bytes. -/
namespace Bn
open Go.Lib
theorem dec_push {q d : Nat} (hq : 0 < q) (hd : d < 10) : decDigits (q * 10 + d) = decDigits q ++ [UInt8.ofNat (48 + d)] := by
  rw [decDigits, dif_neg (by omega), show (q * 10 + d) / 10 = q by omega, show (q * 10 + d) % 10 = d by omega]
def padN : Nat → Nat → List UInt8
  | 0, _ => []
  | k + 1, r => padN k (r / 10) ++ [UInt8.ofNat (48 + r % 10)]
theorem dec_pad : ∀ (k : Nat) {q r : Nat}, 0 < q → r < 10 ^ k → decDigits (q * 10 ^ k + r) = decDigits q ++ padN k r
  | 0, q, r, _, hr => by
    have : r = 0 := by simpa using hr
    subst this
    simp [padN]
  | k + 1, q, r, hq, hr => by
    have h1 : r / 10 < 10 ^ k := by rw [Nat.pow_succ] at hr; omega
    have h2 : 0 < q * 10 ^ k := Nat.mul_pos hq (Nat.pow_pos (by omega))
    have e : q * 10 ^ (k + 1) + r = (q * 10 ^ k + r / 10) * 10 + r % 10 := by
      rw [Nat.pow_succ, ← Nat.mul_assoc]
      generalize q * 10 ^ k = P
      omega
    rw [e, dec_push (by omega) (Nat.mod_lt _ (by omega)), dec_pad k hq h1, padN, List.append_assoc]
theorem pad_zero : ∀ k, padN k 0 = repeatL [48] k
  | 0 => rfl
  | k + 1 => by rw [padN, pad_zero k, repeatL_add, repeatL_one]; rfl
theorem pad_eq : ∀ {k r : Nat}, 0 < k → r < 10 ^ k → padN k r = repeatL [48] (k - nDigits r) ++ decDigits r
  | 0, _, h, _ => absurd h (by omega)
  | k + 1, r, _, hr => by
    rw [padN]
    by_cases h : r < 10
    · rw [Nat.div_eq_of_lt h, pad_zero, nDigits_small h, decDigits_one h, Nat.mod_eq_of_lt h]; rfl
    · have h0 : k ≠ 0 := by rintro rfl; exact h (by simpa using hr)
      rw [pad_eq (k := k) (r := r / 10) (by omega) (by rw [Nat.pow_succ] at hr; omega), nDigits_big h, List.append_assoc]
      congr 1
      · congr 1; omega
      · conv => rhs; rw [decDigits, dif_neg h]
def TxtI (N q : Nat) (ps : List (List UInt8)) : Prop := (0 < q → decDigits N = decDigits q ++ ps.flatten) ∧ (q = 0 → decDigits N = ps.flatten) ∧ ps.length ≤ ps.flatten.length
theorem TxtI.start {N : Nat} (h : 0 < N) : TxtI N N [] := ⟨fun _ => by simp, fun e => absurd e (by omega), by simp⟩
theorem TxtI.more {N q : Nat} {ps : List (List UInt8)} (h : TxtI N q ps) (hq : 0 < q / 1000000000) :
    TxtI N (q / 1000000000) ((repeatL [48] (9 - nDigits (q % 1000000000)) ++ decDigits (q % 1000000000)) :: ps) := by
  have hr : q % 1000000000 < 10 ^ 9 := Nat.mod_lt _ (by omega)
  have e : q / 1000000000 * 10 ^ 9 + q % 1000000000 = q := by rw [Nat.mul_comm]; exact Nat.div_add_mod q 1000000000
  refine ⟨fun _ => ?_, fun e => absurd e (by omega), ?_⟩
  · rw [h.1 (by omega), List.flatten_cons, ← List.append_assoc, ← pad_eq (by omega) hr, ← dec_pad 9 hq hr, e]
  · have h3 := h.2.2
    have h4 := nDigits_pos (q % 1000000000)
    simp only [List.length_cons, List.flatten_cons, List.length_append, decDigits_length]
    omega
theorem TxtI.last {N q : Nat} {ps : List (List UInt8)} (h : TxtI N q ps) (h0 : 0 < q) (hq : q / 1000000000 = 0) :
    TxtI N (q / 1000000000) (decDigits (q % 1000000000) :: ps) := by
  have e : q % 1000000000 = q := Nat.mod_eq_of_lt (by omega)
  rw [e]
  refine ⟨fun e => absurd e (by omega), fun _ => ?_, ?_⟩
  · rw [h.1 h0, List.flatten_cons]
  · have h3 := h.2.2
    have h4 := nDigits_pos q
    simp only [List.length_cons, List.flatten_cons, List.length_append, decDigits_length]
    omega
theorem TxtI.len {N q : Nat} {ps : List (List UInt8)} (h : TxtI N q ps) : ps.flatten.length ≤ nDigits N ∧ ps.length ≤ nDigits N := by
  have h3 := h.2.2
  have : ps.flatten.length ≤ nDigits N := by
    rw [← decDigits_length]
    rcases Nat.eq_zero_or_pos q with e | e
    · rw [h.2.1 e]; exact Nat.le_refl _
    · rw [h.1 e, List.length_append]; omega
  exact ⟨this, by omega⟩
theorem itoa_abs (z : Int) : itoa z = (if z < 0 then [45] else []) ++ decDigits z.natAbs := by
  unfold itoa
  split
  · rfl
  · rw [show z.toNat = z.natAbs by omega]; rfl
end Bn

/- Digits one by one; texts read as numbers: plain. -/
namespace Bn
open Go.Lib
def dg (V : Nat) : List UInt8 := if V = 0 then [] else decDigits V
theorem dg_step {V : Nat} (h : 0 < V) : dg V = dg (V / 10) ++ [UInt8.ofNat (48 + V % 10)] := by
  unfold dg
  rw [if_neg (by omega)]
  by_cases h1 : V < 10
  · rw [if_pos (by omega), decDigits_one h1, Nat.mod_eq_of_lt h1]; rfl
  · rw [if_neg (by omega)]; conv => lhs; rw [decDigits, dif_neg h1]
def DgI (N q k r : Nat) (s : List UInt8) : Prop := decDigits N = dg (q * 10 ^ (9 - k) + r) ++ s ∧ r < 10 ^ (9 - k)
theorem DgI.start {N Q : Nat} {s : List UInt8} (h : decDigits N = dg Q ++ s) : DgI N (Q / 1000000000) 0 (Q % 1000000000) s := by
  refine ⟨?_, Nat.mod_lt _ (by decide)⟩
  rw [show Q / 1000000000 * 10 ^ (9 - 0) + Q % 1000000000 = Q by rw [Nat.mul_comm]; exact Nat.div_add_mod Q 1000000000]
  exact h
theorem DgI.step {N q k r : Nat} {s : List UInt8} (h : DgI N q k r s) (hk : k < 9) (h0 : 0 < r ∨ 0 < q) : DgI N q (k + 1) (r / 10) ([UInt8.ofNat (48 + r % 10)] ++ s) := by
  obtain ⟨h1, h2⟩ := h
  have e : 10 ^ (9 - k) = 10 ^ (9 - (k + 1)) * 10 := by rw [← Nat.pow_succ]; congr 1; omega
  rw [e] at h1 h2
  have hp : 0 < 10 ^ (9 - (k + 1)) := Nat.pow_pos (by omega)
  unfold DgI
  generalize 10 ^ (9 - (k + 1)) = P at *
  have e2 : q * (P * 10) + r = (q * P + r / 10) * 10 + r % 10 := by rw [← Nat.mul_assoc]; omega
  have h3 : 0 < q * (P * 10) + r := by
    rcases h0 with h | h
    · omega
    · have := Nat.mul_pos h (show 0 < P * 10 by omega); omega
  refine ⟨?_, by omega⟩
  rw [h1, dg_step h3, e2, show ((q * P + r / 10) * 10 + r % 10) / 10 = q * P + r / 10 by omega, show ((q * P + r / 10) * 10 + r % 10) % 10 = r % 10 by omega, List.append_assoc]
theorem dg_len {N Q : Nat} {s : List UInt8} (h : decDigits N = dg Q ++ s) : s.length ≤ nDigits N := by
  rw [← decDigits_length, h, List.length_append]; omega
theorem DgI.len {N q k r : Nat} {s : List UInt8} (h : DgI N q k r s) : s.length ≤ nDigits N := dg_len h.1

/-! ### Texts read -/
def isDg (c : UInt8) : Bool := decide (48 ≤ c.toNat) && decide (c.toNat ≤ 57)
def dval (c : UInt8) : Nat := c.toNat - 48
def decVal (l : List UInt8) : Nat := l.foldl (fun a c => a * 10 + dval c) 0
theorem foldl_dec (l : List UInt8) : ∀ a, l.foldl (fun a c => a * 10 + dval c) a = a * 10 ^ l.length + decVal l := by
  unfold decVal
  induction l with
  | nil => intro a; simp
  | cons x r ih =>
    intro a
    rw [List.foldl_cons, ih, List.foldl_cons, ih (0 * 10 + dval x), List.length_cons, Nat.pow_succ, Nat.add_mul]
    rw [Nat.zero_mul, Nat.zero_add, Nat.mul_assoc, Nat.mul_comm 10, Nat.add_assoc]
theorem decVal_app (a b : List UInt8) : decVal (a ++ b) = decVal a * 10 ^ b.length + decVal b := by
  conv => lhs; unfold decVal
  rw [List.foldl_append, foldl_dec]; rfl
theorem decVal_snoc (a : List UInt8) (c : UInt8) : decVal (a ++ [c]) = decVal a * 10 + dval c := by
  rw [decVal_app]; simp [decVal]
theorem decVal_lt : ∀ {l : List UInt8}, l.all isDg = true → decVal l < 10 ^ l.length := by
  intro l
  induction l with
  | nil => intro _; simp [decVal]
  | cons x r ih =>
    intro h
    rw [List.all_cons, Bool.and_eq_true] at h
    have h1 := ih h.2
    have hx : dval x ≤ 9 := by
      have := h.1; unfold isDg at this; simp at this; unfold dval; omega
    have e : decVal (x :: r) = dval x * 10 ^ r.length + decVal r := by
      have := decVal_app [x] r
      simpa [decVal] using this
    rw [e, List.length_cons, Nat.pow_succ]
    have := Nat.mul_le_mul_right (10 ^ r.length) hx
    omega
def tailS (l : List UInt8) : List UInt8 := match l with | 45 :: r => r | l => l
def headM (l : List UInt8) : Bool := match l with | 45 :: _ => true | _ => false
def okZ (l : List UInt8) : Bool := decide (tailS l ≠ []) && (tailS l).all isDg && !(decide ((tailS l).head? = some 48) && (decide (1 < (tailS l).length) || headM l))
def valZ (l : List UInt8) : Int := if headM l then -(decVal (tailS l) : Int) else decVal (tailS l)
theorem digit_ok {d : Nat} (h : d < 10) : isDg (UInt8.ofNat (48 + d)) = true ∧ dval (UInt8.ofNat (48 + d)) = d := by
  have e : (UInt8.ofNat (48 + d)).toNat = 48 + d := by simp; omega
  unfold isDg dval
  rw [e]
  simp; omega
theorem dec_all (n : Nat) : (decDigits n).all isDg = true ∧ decVal (decDigits n) = n := by
  induction n using Nat.strongRecOn with
  | ind n ih =>
    by_cases h : n < 10
    · rw [decDigits_one h]
      have h1 := digit_ok h
      generalize UInt8.ofNat (48 + n) = c at h1
      refine ⟨by rw [List.all_cons, h1.1]; rfl, ?_⟩
      rw [← List.nil_append [c], decVal_snoc, h1.2]; simp [decVal]
    · have e : decDigits n = decDigits (n / 10) ++ [UInt8.ofNat (48 + n % 10)] := by
        conv => lhs; rw [decDigits, dif_neg h]
      have h1 := ih (n / 10) (by omega)
      have h2 := digit_ok (Nat.mod_lt n (show 0 < 10 by omega))
      generalize UInt8.ofNat (48 + n % 10) = c at h2 e
      refine ⟨by rw [e, List.all_append, h1.1, List.all_cons, h2.1]; rfl, ?_⟩
      rw [e, decVal_snoc, h1.2, h2.2]; omega
theorem dec_head {n : Nat} (h : 0 < n) : ∃ c r, decDigits n = c :: r ∧ c ≠ 48 ∧ c ≠ 45 := by
  induction n using Nat.strongRecOn with
  | ind n ih =>
    by_cases h1 : n < 10
    · rw [decDigits_one h1]
      refine ⟨_, [], rfl, ?_, ?_⟩
      · intro e
        have := congrArg UInt8.toNat e
        simp at this; omega
      · intro e
        have := congrArg UInt8.toNat e
        simp at this; omega
    · have e : decDigits n = decDigits (n / 10) ++ [UInt8.ofNat (48 + n % 10)] := by
        conv => lhs; rw [decDigits, dif_neg h1]
      obtain ⟨c, r, h2, h3⟩ := ih (n / 10) (by omega) (by omega)
      exact ⟨c, r ++ [UInt8.ofNat (48 + n % 10)], by rw [e, h2]; rfl, h3⟩
theorem itoa_ok (z : Int) : okZ (itoa z) = true ∧ valZ (itoa z) = z := by
  rw [itoa_abs]
  rcases Nat.eq_zero_or_pos z.natAbs with h | h
  · have : z = 0 := by omega
    subst this
    rw [if_neg (by decide), show (0 : Int).natAbs = 0 from rfl, decDigits_one (by omega)]
    decide
  · obtain ⟨c, r, e, h1, h2⟩ := dec_head h
    have ha := dec_all z.natAbs
    by_cases hz : z < 0
    · rw [if_pos hz]
      have et : tailS ([45] ++ decDigits z.natAbs) = decDigits z.natAbs := rfl
      have em : headM ([45] ++ decDigits z.natAbs) = true := rfl
      unfold okZ valZ
      rw [et, em, ha.1, ha.2, e]
      simp [h1]; omega
    · rw [if_neg hz, List.nil_append]
      have et : tailS (decDigits z.natAbs) = decDigits z.natAbs := by rw [e]; unfold tailS; split <;> simp_all
      have em : headM (decDigits z.natAbs) = false := by rw [e]; unfold headM; split <;> simp_all
      unfold okZ valZ
      rw [et, em, ha.1, ha.2, e]
      simp [h1]; omega
end Bn

/- Texts read as numbers: what the library's functions give on digits. Plain. -/
namespace Bn
open Go.Lib
theorem digitVal_dg {c : UInt8} (h : isDg c = true) : digitVal c = some (dval c) := by
  unfold isDg at h
  rw [Bool.and_eq_true, decide_eq_true_eq, decide_eq_true_eq] at h
  unfold digitVal dval
  rw [if_pos h]
theorem decFrom_dg : ∀ {l : List UInt8}, l.all isDg = true → ∀ acc, decFrom acc l = some (l.foldl (fun a c => a * 10 + dval c) acc) := by
  intro l
  induction l with
  | nil => intro _ acc; rfl
  | cons x r ih =>
    intro h acc
    rw [List.all_cons, Bool.and_eq_true] at h
    rw [decFrom, digitVal_dg h.1, List.foldl_cons]
    exact ih h.2 _
theorem atoi_dec {l : List UInt8} (h : l.all isDg = true) (h0 : l ≠ []) : atoi l = some (decVal l : Int) := by
  cases l with
  | nil => exact absurd rfl h0
  | cons x r =>
    have hx : isDg x = true := by rw [List.all_cons, Bool.and_eq_true] at h; exact h.1
    have h1 : (x == 45) = false := by
      apply Bool.eq_false_iff.2
      intro e
      rw [beq_iff_eq] at e
      subst e
      exact absurd hx (by decide)
    have h2 : (x == 43) = false := by
      apply Bool.eq_false_iff.2
      intro e
      rw [beq_iff_eq] at e
      subst e
      exact absurd hx (by decide)
    unfold atoi
    dsimp only
    rw [h1, h2]
    simp only [Bool.false_eq_true, if_false]
    unfold decNat
    rw [if_neg (by simp), decFrom_dg h]
    rfl
def digs10 : List UInt8 := [48, 49, 50, 51, 52, 53, 54, 55, 56, 57]
theorem contains_dg (c : UInt8) : digs10.contains c = isDg c := by
  have h : ∀ v : Fin 256, digs10.contains (UInt8.ofNat v) = isDg (UInt8.ofNat v) := by decide +kernel
  have := h ⟨c.toNat, c.toNat_lt⟩
  simpa using this
theorem dropWhile_nil {p : UInt8 → Bool} : ∀ {l : List UInt8}, l.dropWhile p = [] ↔ l.all p = true := by
  intro l
  induction l with
  | nil => simp
  | cons x r ih =>
    by_cases h : p x = true
    · rw [List.dropWhile_cons_of_pos h, ih, List.all_cons, h]; simp
    · rw [List.dropWhile_cons_of_neg h]; simp [h]
theorem dropWhile_head {p : UInt8 → Bool} : ∀ {l : List UInt8} {x : UInt8} {r : List UInt8}, l.dropWhile p = x :: r → p x = false := by
  intro l
  induction l with
  | nil => intro x r h; simp at h
  | cons y s ih =>
    intro x r h
    by_cases hy : p y = true
    · rw [List.dropWhile_cons_of_pos hy] at h; exact ih h
    · rw [List.dropWhile_cons_of_neg hy] at h
      injection h with h1 h2
      subst h1
      simpa using hy
theorem trim_dg {l : List UInt8} : trimS l digs10 = [] ↔ l.all isDg = true := by
  have hp : (fun b => digs10.contains b) = isDg := funext contains_dg
  unfold trimS trimLeftS trimRightS
  rw [hp]
  rw [dropWhile_nil, List.all_reverse]
  constructor
  · intro h
    cases hd : l.reverse.dropWhile isDg with
    | nil => have := dropWhile_nil.1 hd; rw [List.all_reverse] at this; exact this
    | cons x r =>
      rw [hd, List.all_cons, Bool.and_eq_true] at h
      rw [dropWhile_head hd] at h
      exact absurd h.1 (by simp)
  · intro h
    rw [dropWhile_nil.2 (by rw [List.all_reverse]; exact h)]
    rfl
theorem hasPrefix_m (l : List UInt8) : hasPrefix l [45] = headM l := by
  unfold hasPrefix headM
  cases l with
  | nil => rfl
  | cons x r =>
    by_cases h : x = 45
    · subst h; rfl
    · have e : (45 == x) = false := by simp; exact fun e => h e.symm
      simp only [List.isPrefixOf, e, Bool.false_and]
      split
      · rename_i h1; injection h1 with h2; exact absurd h2 h
      · rfl
theorem trimPrefix_m (l : List UInt8) : trimPrefix l [45] = tailS l := by
  unfold trimPrefix
  rw [hasPrefix_m]
  unfold headM tailS
  split
  · rename_i r
    rfl
  · rfl
theorem tailS_len (l : List UInt8) : (tailS l).length ≤ l.length := by
  unfold tailS; split <;> simp
theorem len_ten (k : Nat) : 10 ^ k ≤ 4294967296 ^ k := Nat.pow_le_pow_left (by omega) k
theorem decVal_words {l : List UInt8} (h : l.all isDg = true) : decVal l < 4294967296 ^ l.length := Nat.lt_of_lt_of_le (decVal_lt h) (len_ten _)
theorem all_take {l : List UInt8} {p : UInt8 → Bool} (h : l.all p = true) (k : Nat) : (l.take k).all p = true := by
  rw [List.all_eq_true] at h ⊢
  exact fun x hx => h x (List.mem_of_mem_take hx)
theorem all_drop {l : List UInt8} {p : UInt8 → Bool} (h : l.all p = true) (k : Nat) : (l.drop k).all p = true := by
  rw [List.all_eq_true] at h ⊢
  exact fun x hx => h x (List.mem_of_mem_drop hx)
def GrpI (t pre rest : List UInt8) : Prop := t = pre ++ rest ∧ (pre = [] ∨ rest.length % 9 = 0)
theorem GrpI.step {t pre rest : List UInt8} {n : Nat} (h : GrpI t pre rest) (h0 : 0 < rest.length) (hn : (rest.length - 1) % 9 + 1 = n) :
    n ≤ rest.length ∧ n ≤ 9 ∧ 0 < n ∧ GrpI t (pre ++ rest.take n) (rest.drop n) ∧ decVal (pre ++ rest.take n) = decVal pre * 1000000000 + decVal (rest.take n) := by
  have h1 : n ≤ rest.length := by have := Nat.mod_le (rest.length - 1) 9; omega
  refine ⟨h1, by have := Nat.mod_lt (rest.length - 1) (show 0 < 9 by omega); omega, by omega, ⟨?_, ?_⟩, ?_⟩
  · rw [List.append_assoc, List.take_append_drop]; exact h.1
  · right; rw [List.length_drop]; omega
  · rw [decVal_app, List.length_take, Nat.min_eq_left h1]
    rcases h.2 with e | e
    · subst e; simp [decVal]
    · have : n = 9 := by omega
      subst this; rfl
theorem GrpI.start (t : List UInt8) : GrpI t [] t := ⟨rfl, .inl rfl⟩
theorem GrpI.fin {t pre : List UInt8} (h : GrpI t pre []) : pre = t := by have := h.1; rw [List.append_nil] at this; exact this.symm
theorem okZ_parts {l : List UInt8} (h : okZ l = true) : tailS l ≠ [] ∧ (tailS l).all isDg = true ∧ ¬ ((tailS l).head? = some 48 ∧ (1 < (tailS l).length ∨ headM l = true)) := by
  unfold okZ at h
  simp at h
  refine ⟨h.1.1, by simpa using h.1.2, fun ⟨a, b⟩ => ?_⟩
  rcases h.2 with e | e
  · exact e a
  · rcases b with b | b
    · omega
    · rw [b] at e; exact absurd e.2 (by simp)
end Bn

/- Division bit by bit: plain numbers. -/
namespace Bn
def DblI (l L : List Nat) (b k cr : Nat) : Prop := (∀ i, k ≤ i → wd L i = wd l i) ∧ Sm (wd L) k + cr * 4294967296 ^ k = 2 * Sm (wd l) k + b
theorem DblI.start (l : List Nat) (b : Nat) : DblI l l b 0 b := ⟨fun _ _ => rfl, by simp [Sm]⟩
theorem DblI.step {l L : List Nat} {b k cr x : Nat} (h : DblI l L b k cr) (hx : wd l k = x) (hlt : x < 4294967296) (hk : k < L.length) :
    DblI l (L.set k (x * 2 % 4294967296 + cr)) b (k + 1) (x / 2147483648) := by
  refine ⟨fun i hi => ?_, ?_⟩
  · rw [wd_set, if_neg (by omega)]; exact h.1 i (by omega)
  · rw [Sm_set_succ _ _ _ hk, Sm, hx, Nat.pow_succ]
    have h2 := h.2
    have e : x * 2 % 4294967296 + x / 2147483648 * 4294967296 = 2 * x := by omega
    have e2 : x * 2 % 4294967296 * 4294967296 ^ k + x / 2147483648 * (4294967296 ^ k * 4294967296) = 2 * (x * 4294967296 ^ k) := by
      have : (x * 2 % 4294967296 + x / 2147483648 * 4294967296) * 4294967296 ^ k = 2 * x * 4294967296 ^ k := by rw [e]
      rw [Nat.add_mul] at this
      have e3 : x / 2147483648 * (4294967296 ^ k * 4294967296) = x / 2147483648 * 4294967296 * 4294967296 ^ k := by grind
      rw [e3, ← Nat.mul_assoc]; exact this
    rw [Nat.add_mul]
    omega
theorem DblI.fin {l L : List Nat} {b k cr : Nat} (h : DblI l L b k cr) (hl : l.length = k) (hL : L.length = k) (hs : 2 * val l + b < 4294967296 ^ k) : val L = 2 * val l + b := by
  have h2 := h.2
  rw [Sm_ge L (by omega), Sm_ge l (by omega)] at h2
  rcases Nat.eq_zero_or_pos cr with e | e
  · subst e; omega
  · have : 1 * 4294967296 ^ k ≤ cr * 4294967296 ^ k := Nat.mul_le_mul_right _ e
    omega
end Bn

/- Roots: plain numbers. -/
namespace Bn
theorem pow_sq (k : Nat) : 2 ^ k * 2 ^ k = 2 ^ (2 * k) := by rw [← Nat.pow_add]; congr 1; omega
def RootI (M r i : Nat) : Prop := r * r ≤ M ∧ M < (r + 2 ^ i) * (r + 2 ^ i)
theorem RootI.start {M N : Nat} (h : M < 2 ^ N) : RootI M 0 (N / 2 + 1) := by
  refine ⟨Nat.zero_le _, ?_⟩
  rw [Nat.zero_add, pow_sq]
  exact Nat.lt_of_lt_of_le h (Nat.pow_le_pow_right (by omega) (by omega))
theorem RootI.no {M r i : Nat} (h : RootI M r (i + 1)) (hx : ¬ (r + 2 ^ i) * (r + 2 ^ i) ≤ M) : RootI M r i := ⟨h.1, by omega⟩
theorem RootI.fin {M r : Nat} (h : RootI M r 0) : isq M = r := isq_of h.1 (by have := h.2; simpa using this)
end Bn

/- Walks: integer.Root. -/
namespace Go.Proofs.YtoiijifnfdgfpaaGreatDoor
open Go Go.RowKit Bn

def RetIe (w : World) (v : Value) (z : Int) (k : Nat) (e : Ending) (w' : World) : Prop := ∃ b A n c, e = .returned (.tuple #[.agg #[.bool b, .slice A n c], v]) ∧ IV w' b A n c z k ∧ Below w.heap.size w w'
end Go.Proofs.YtoiijifnfdgfpaaGreatDoor

/- Walks: integer.Text. -/
namespace Go.Proofs.YtoiijifnfdgfpaaGreatDoor
open Go Go.RowKit Bn

def Tab (w : World) : Prop := Lib.TabIs Tryz.prog w "internal/strconv.uint64pow10" .u64 Lib.pow10Tab
theorem Tab.belw {w w' : World} (h : Tab w) (hb : Below w.heap.size w w') : Tab w' := Lib.tabBelow_of_tabIs h w' hb
abbrev strV (l : List UInt8) : Value := .string ⟨l.toArray⟩
def strs (ps : List (List UInt8)) : List Value := ps.map strV
def StrL (w : World) (p : Value) (ps : List (List UInt8)) : Prop := (ps = [] ∧ p = .slice none 0 0) ∨ (ps ≠ [] ∧ ∃ g cap, p = .slice (some ⟨g, 0, none⟩) ps.length cap ∧ g < w.heap.size ∧ ps.length ≤ cap ∧ ∀ j, j < ps.length → w.cell? ⟨g, j, none⟩ = (strs ps)[j]?)
theorem StrL.belw {w w' : World} {p : Value} {ps : List (List UInt8)} (h : StrL w p ps) (hb : Below w.heap.size w w') : StrL w' p ps := by
  rcases h with h | ⟨h0, g, cap, h1, h2, h3, h4⟩
  · exact .inl h
  · refine .inr ⟨h0, g, cap, h1, Nat.lt_of_lt_of_le h2 hb.size, h3, fun j hj => ?_⟩
    rw [← h4 j hj]
    simp only [World.cell?, hb.block g h2]
theorem StrL.one (w : World) (S : List UInt8) : StrL (w.alloc (.cells #[strV S] 9)) (.slice (some ⟨w.heap.size, 0, none⟩) 1 1) [S] := by
  refine .inr ⟨by simp, _, _, rfl, by simp, Nat.le_refl _, fun j hj => ?_⟩
  rw [World.cell?_alloc_new]
  have : j = 0 := by simpa using hj
  subst this
  rfl
theorem StrL.own {w : World} {base g cap : Nat} {S : List UInt8} {ps : List (List UInt8)} (h : w.ownsRow base 9 1 (.slice (some ⟨g, 0, none⟩) (1 + ps.length) cap) (1 + ps.length) ([strV S] ++ strs ps)) (hg : g < w.heap.size) :
    StrL w (.slice (some ⟨g, 0, none⟩) (1 + ps.length) cap) (S :: ps) := by
  refine .inr ⟨by simp, g, cap, by rw [List.length_cons, Nat.add_comm], hg, ?_, fun j hj => ?_⟩
  · rcases h.2 with ⟨e, _⟩ | ⟨g', c', cur, e, _, _, hc, _⟩
    · exact absurd e (by simp)
    · injection e with _ _ e2
      rw [List.length_cons]; omega
  · rw [h.cellAt j (by rw [List.length_cons] at hj; omega)]
    rfl
end Go.Proofs.YtoiijifnfdgfpaaGreatDoor

/- Walks: integer.Parse. -/
namespace Go.Proofs.YtoiijifnfdgfpaaGreatDoor
open Go Go.RowKit Bn

theorem toList_v (l : List UInt8) : (⟨l.toArray⟩ : ByteArray).toList = l := by rw [Lib.toList_data]
theorem size_v (l : List UInt8) : (⟨l.toArray⟩ : ByteArray).size = l.length := rfl
theorem ext_v (l : List UInt8) (a b : Nat) : (⟨l.toArray⟩ : ByteArray).extract a b = ⟨((l.drop a).take (b - a)).toArray⟩ := by
  apply ByteArray.ext
  rw [ByteArray.data_extract]
  simp
theorem prefix_v (w : World) (l : List UInt8) (m : Bool) (hm : headM l = m) : Calls Tryz.prog 125 #[strV l, .string ⟨#[45]⟩] w (RetV w (.bool m)) := by
  subst hm
  refine (Tryz.strings_HasPrefix ⟨l.toArray⟩ ⟨#[45]⟩ w).mono fun e w' ⟨he, hw⟩ => ⟨?_, hw ▸ brefl _⟩
  rw [he]
  exact congrArg (fun x => Ending.returned (.bool x)) (hasPrefix_m l)
theorem tprefix_v (w : World) (l t : List UInt8) (ht : tailS l = t) : Calls Tryz.prog 126 #[strV l, .string ⟨#[45]⟩] w (RetV w (strV t)) := by
  subst ht
  refine (Tryz.strings_TrimPrefix ⟨l.toArray⟩ ⟨#[45]⟩ w).mono fun e w' ⟨he, hw⟩ => ⟨?_, hw ▸ brefl _⟩
  rw [he]
  exact congrArg (fun x : List UInt8 => Ending.returned (strV x)) (trimPrefix_m l)
theorem trim_v (w : World) (t x : List UInt8) (hn : t.length ≤ 1000000) (hx : Lib.trimS t digs10 = x) : Calls Tryz.prog 127 #[strV t, .string ⟨#[48, 49, 50, 51, 52, 53, 54, 55, 56, 57]⟩] w (RetV w (strV x)) := by
  subst hx
  exact Any.strings_Trim_laid Tryz.lays160 (by kernel_rfl) ⟨t.toArray⟩ ⟨#[48, 49, 50, 51, 52, 53, 54, 55, 56, 57]⟩ w (by show t.length ≤ _; omega) (by decide) (ascii_of_all (by decide))
theorem atoi_v (w : World) (t : List UInt8) (x : Nat) (hn : t.length ≤ 9) (h0 : t ≠ []) (ha : t.all isDg = true) (hx : decVal t = x) : Calls Tryz.prog 131 #[strV t] w (RetV w (.tuple #[.int .i64 (x : Nat), .nilIface])) := by
  subst hx
  refine (Tryz.strconv_Atoi ⟨t.toArray⟩ (decVal t : Nat) (by show t.length ≤ 18; omega) (atoi_dec ha h0) w).mono fun e w' ⟨he, t, hw⟩ => ⟨he, ?_⟩
  rw [hw]
  exact ⟨rfl, rfl, rfl, by rw [Lib.bytesWorld_size]; omega, fun j hj => Lib.bytesWorld_at_old _ _ _ j hj⟩
def ParseI (T : List UInt8) (W0 wr : World) (tv mv : Value) : Prop := ∃ pre rest A1 n1 c1, tv = strV rest ∧ mv = .slice A1 n1 c1 ∧ n1 ≤ 65536 ∧ rest.length ≤ 65536 ∧ Kept (GrpI T pre rest ∧ pre.all isDg = true ∧ rest.all isDg = true ∧ Wd wr A1 n1 c1 (digs (decVal pre))) ∧ Below W0.heap.size W0 wr
def strLen : Value → Nat
  | .string s => s.size
  | _ => 0
theorem plus_k (w : World) (A : Option Addr) (n c x : Nat) (wa : Wd w A n c (digs x)) (hn : n ≤ 1099511627776) (A' : Option Addr) (n' c' y : Nat) (wb : Wd w A' n' c' (digs y)) (hn' : n' ≤ 1099511627776) :
    Calls Tryz.prog 132 #[.slice A n c, .slice A' n' c'] w (RetL w (digs (x + y))) := by
  have := plus_c w A n c (digs x) wa hn A' n' c' (digs y) wb hn'
  rw [val_digs, val_digs] at this
  exact this
theorem times_n (w : World) (A : Option Addr) (n c x : Nat) (wa : Wd w A n c (digs x)) (hn : n ≤ 1099511627776) (g : Nat) (z : Int) (y : Nat) (hz : z = y) (hy : y < 4294967296) (hb : Blk w g 82 #[.int .u32 z]) :
    Calls Tryz.prog 133 #[.slice A n c, .slice (some ⟨g, 0, none⟩) 1 1] w (RetL w (digs (x * y))) := by
  subst hz
  have h1 : Wd w (some ⟨g, 0, none⟩) 1 1 [y] := Blk.wdN (l := [y]) hb (by intro x hx; simp at hx; omega) rfl
  have := times_c w A n c (digs x) wa hn (some ⟨g, 0, none⟩) 1 1 [y] h1 (by omega)
  rw [val_digs, show val [y] = y by simp [val]] at this
  exact this
theorem trim_n (w : World) (g : Nat) (z : Int) (y : Nat) (hz : z = y) (hy : y < 4294967296) (hb : Blk w g 82 #[.int .u32 z]) :
    Calls Tryz.prog 134 #[.slice (some ⟨g, 0, none⟩) 1 1] w (RetL w (digs y)) := by
  subst hz
  have h1 : Wd w (some ⟨g, 0, none⟩) 1 1 [y] := Blk.wdN (l := [y]) hb (by intro x hx; simp at hx; omega) rfl
  have := trim_c w (some ⟨g, 0, none⟩) 1 1 [y] h1 (by omega)
  rw [show val [y] = y by simp [val]] at this
  exact this
theorem i_parse_ok (w : World) (l : List UInt8) (hl : l.length ≤ 65536) (hb : okZ l = true) :
    Calls Tryz.prog 76 #[strV l] w (RetIe w .nilIface (valZ l) l.length) := by
  have hsz := size_v l
  have htl2 := tailS_len l
  have htl := Nat.le_trans htl2 hl
  obtain ⟨m, hm⟩ : ∃ m, headM l = m := ⟨_, rfl⟩
  obtain ⟨t, ht⟩ : ∃ t, tailS l = t := ⟨_, rfl⟩
  obtain ⟨h0, h1, h2⟩ := okZ_parts hb
  have hv : valZ l = if m then -(decVal t : Int) else decVal t := by unfold valZ; rw [hm, ht]
  rw [hm, ht] at h2
  rw [ht] at htl htl2 h0 h1
  have HM := Lib.hid (And.intro hm ht)
  have HV := Lib.hid hv
  have b0 : Below w.heap.size w (w.alloc (.cells #[.bool false, .slice none 0 0] 123)) := (brefl w).alloc (Nat.le_refl _) _
  have x0 : Blk (w.alloc (.cells #[.bool false, .slice none 0 0] 123)) w.heap.size 123 #[.bool false, .slice none 0 0] := blkAt _ _ _ rfl
  clear hb hm ht hv
  obtain ⟨c, r, rfl⟩ := List.exists_cons_of_ne_nil h0
  have htl0 := toList_v (c :: r)
  have htl1 := toList_v []
  have hsz0 := size_v (c :: r)
  have HX := Lib.hid (trim_dg.2 h1)
  have HTL := Lib.hid (show (c :: r : List UInt8).length ≤ 1000000 by omega)
  have HALL := Lib.hid h1
  have hcase : c ≠ 48 ∨ (c = 48 ∧ r = [] ∧ m = false) := by
    by_cases hc : c = 48
    · refine .inr ⟨hc, ?_, ?_⟩
      · cases r with
        | nil => rfl
        | cons d rs => exact absurd ⟨by rw [hc]; rfl, .inl (by simp)⟩ h2
      · cases m with
        | false => rfl
        | true => exact absurd ⟨by rw [hc]; rfl, .inr rfl⟩ h2
    · exact .inl hc
  have HLL := Lib.hid htl
  have HSZ := Lib.hid (show (valZ l).natAbs < 4294967296 ^ l.length by
    rw [HV.out]
    refine Nat.lt_of_lt_of_le (show (if m = true then -(decVal (c :: r) : Int) else (decVal (c :: r) : Int)).natAbs < 4294967296 ^ (c :: r).length by
      have := decVal_words h1
      split <;> omega) (Nat.pow_le_pow_right (by omega) htl2))
  clear h0 h1 h2
  rcases hcase with hc | ⟨rfl, rfl, rfl⟩
  · have hcn : c.toNat ≠ 48 := fun e => hc (UInt8.toNat.inj e)
    have hcz : ¬ (c.toNat : Int) = 48 := by omega
    have hcb : ((c.toNat : Int) == 48) = false := by simp; omega
    have hget : ∀ h, (⟨(c :: r).toArray⟩ : ByteArray)[0]'h = c := fun h => rfl
    go_enter Tryz.func76, Tryz.ntmps76
    go_wp2_with (first
      | (go_at_call 125; (with_reducible refine (prefix_v _ l _ HM.out.1).mono ?_); rintro e w1 ⟨rfl, hb1⟩; have b1 := b0.trans (hb1.mono b0.size); have x1 := x0.below hb1 x0.lt)
      | (go_at_call 126; (with_reducible refine (tprefix_v _ l _ HM.out.2).mono ?_); rintro e w2 ⟨rfl, hb2⟩; have b2 := b1.trans (hb2.mono b1.size); have x2 := x1.below hb2 x1.lt)
      | (go_at_call 127; (with_reducible refine (trim_v _ _ [] ?_ HX.out).mono ?_); (exact HTL.out); rintro e w3 ⟨rfl, hb3⟩; have b3 := b2.trans (hb3.mono b2.size); have x3 := x2.below hb3 x2.lt))
    clear hget hcz hcb hcn hc htl0 htl1 hsz0
    go_loopw [5, 6] (fun tv mv wr => ParseI (c :: r) w3 wr tv mv) (fun tv _ _ => strLen tv)
    case atStart => exact ⟨[], (c :: r), none, 0, 0, rfl, rfl, by omega, HLL.out, ⟨GrpI.start _, rfl, HALL.out, by rw [show decVal [] = 0 from rfl, digs_zero]; exact Wd.nil_ _⟩, brefl _⟩
    case round =>
      obtain ⟨pre, rest, A1, n1, c1, rfl, rfl, hn1, hrl, hK, rr⟩ := hrel
      have bw := b3.trans (rr.mono b3.size)
      have x4 := x3.below rr x3.lt
      by_cases hr0 : rest = []
      · subst hr0
        have hpre := hK.1.fin
        subst hpre
        have hsz1 := size_v []
        go_wp2_with (go_at_call 122; (with_reducible refine (whole_c _ m A1 n1 c1 (digs (decVal (c :: r))) ?_ ?_).mono ?_); (exact hK.2.2.2); omega; rintro e w5 ⟨A5, n5, c5, rfl, h5, hb5⟩; have b5 := bw.trans (hb5.mono bw.size); have x5 := x4.below hb5 x4.lt; obtain ⟨d0, d1⟩ := x5.c2; obtain ⟨f0, f1⟩ := x5.f2)
        rw [val_digs] at h5
        have hz : sgn m (decVal (c :: r)) = valZ l := by rw [HV.out]; rfl
        rw [hz] at h5
        refine bodyPost_ret (v := .tuple #[.agg #[.bool _, .slice A5 n5 c5], .nilIface]) (by simp [results, Tryz.results76, go_sem, *] <;> first | rfl | exact ⟨rfl, rfl⟩) rfl ?_
        exact ⟨_, _, _, _, rfl, IV.mk_ (h5.keep (kp2 x5.box (by decide) _ _ _ _)) (by rw [val_digs, hz]) HSZ.out, (b5.setCell (by dsimp only; omega) _).setCell (by dsimp only; omega) _⟩
      · have hlp : 0 < rest.length := List.length_pos_iff.2 hr0
        obtain ⟨L, hL⟩ : ∃ L, rest.length = L := ⟨_, rfl⟩
        obtain ⟨k, hk⟩ : ∃ k, (L - 1) % 9 = k := ⟨_, rfl⟩
        have hk9 : k < 9 := by rw [← hk]; exact Nat.mod_lt _ (by omega)
        have hst := hK.1.step (n := k + 1) hlp (by rw [hL, hk])
        rw [hL] at hst hlp hrl
        have hkL := hst.1
        have hsz1 : (⟨rest.toArray⟩ : ByteArray).size = L := hL
        have e1 : ((L : Int) - 1) % 9 = (k : Int) := by omega
        have e2 : (⟨rest.toArray⟩ : ByteArray).extract 0 (k + 1) = ⟨(rest.take (k + 1)).toArray⟩ := by rw [ext_v]; simp
        have e3 : (⟨rest.toArray⟩ : ByteArray).extract (k + 1) L = ⟨(rest.drop (k + 1)).toArray⟩ := by rw [ext_v, List.take_of_length_le]; rw [List.length_drop, hL]; exact Nat.le_refl _
        obtain ⟨x, hx⟩ : ∃ x, decVal (rest.take (k + 1)) = x := ⟨_, rfl⟩
        have htk := all_take hK.2.2.1 (k + 1)
        have hx9 : x < 1000000000 := by
          have h9 := decVal_lt htk
          rw [hx] at h9
          refine Nat.lt_of_lt_of_le h9 (Nat.le_trans (Nat.pow_le_pow_right (by omega) (show (rest.take (k + 1)).length ≤ 9 by rw [List.length_take]; omega)) (by decide))
        have hpd := all_drop hK.2.2.1 (k + 1)
        have HST := Lib.hid hst
        have HXX := Lib.hid hx
        have HTK := Lib.hid htk
        have HLR := Lib.hid hL
        have hnd : (rest.drop (k + 1)).length = L - (k + 1) := by rw [List.length_drop, hL]
        have HND := Lib.hid hnd
        have hT1 : (rest.take (k + 1)).length ≤ 9 := by rw [List.length_take]; omega
        have hT0 : rest.take (k + 1) ≠ [] := fun e => by have := congrArg List.length e; rw [List.length_take, hL] at this; simp at this; omega
        have HT1 := Lib.hid (And.intro hT1 hT0)
        have hpl := decVal_lt (show (pre ++ rest.take (k + 1)).all isDg = true by rw [List.all_append, hK.2.1, htk]; rfl)
        clear hk hst hx htk hL hr0 hnd hT1 hT0
        go_wp2_with (first
          | (go_at_call 131; (with_reducible refine (atoi_v _ (rest.take (k + 1)) x ?_ ?_ ?_ HXX.out).mono ?_); (exact HT1.out.1); (exact HT1.out.2); (exact HTK.out); rintro e w5 ⟨rfl, hb5⟩; have b5 : Below wr.heap.size wr (w5.alloc (.cells #[.int .u32 1000000000] 82)) := hb5.alloc hb5.size _; have y5 : Blk (w5.alloc (.cells #[.int .u32 1000000000] 82)) w5.heap.size 82 #[.int .u32 1000000000] := blkAt _ _ _ rfl)
          | (go_at_call 133; (with_reducible refine (times_n _ A1 n1 c1 (decVal pre) ?_ ?_ w5.heap.size 1000000000 1000000000 ?_ ?_ ?_).mono ?_); (exact hK.2.2.2.belw b5); omega; rfl; omega; (exact y5); rintro e w6 ⟨A6, n6, c6, rfl, h6, hb6⟩; have b6 := b5.trans (hb6.mono b5.size); have hn6 : n6 ≤ 1000000000 := (by have h9 := h6.2.1; rw [h9]; refine Nat.le_trans (length_digs_le (k := n1 + 1) ?_) (by omega); have h8 := (hK.2.2.2).vlt (Nat.le_refl _); rw [val_digs] at h8; rw [Nat.pow_succ]; exact Nat.mul_lt_mul'' h8 (by omega)))
          | (go_at_call 134; (with_reducible refine (trim_n _ w6.heap.size (x : Int) x ?_ ?_ ?_).mono ?_); (first | rfl | omega); omega; (exact blkAt _ _ _ rfl); rintro e w7 ⟨A7, n7, c7, rfl, h7, hb7⟩; have b7 : Below wr.heap.size wr w7 := (b6.alloc b6.size _).trans (hb7.mono (by have := b6.size; simp; omega)); have h67 : Below w6.heap.size w6 w7 := ((brefl w6).alloc (Nat.le_refl _) _).trans (hb7.mono (by simp)); have hn7 : n7 ≤ 1000000000 := (by have h9 := h7.2.1; rw [h9]; exact Nat.le_trans (length_digs_le (k := 1) (by omega)) (by omega)))
          | (go_at_call 132; (with_reducible refine (plus_k _ A6 n6 c6 (decVal pre * 1000000000) ?_ ?_ A7 n7 c7 x ?_ ?_).mono ?_); (exact h6.belw h67); omega; (exact h7); omega; rintro e w8 ⟨A8, n8, c8, rfl, h8, hb8⟩; have b8 := b7.trans (hb8.mono b7.size)))
        have hv8 : decVal pre * 1000000000 + x = decVal (pre ++ rest.take (k + 1)) := by rw [HST.out.2.2.2.2, HXX.out]
        go_roundw
        case rel =>
          refine ⟨pre ++ rest.take (k + 1), rest.drop (k + 1), A8, n8, c8, rfl, rfl, ?_, by rw [HND.out]; omega, ⟨HST.out.2.2.2.1, by rw [List.all_append, hK.2.1, HTK.out]; rfl, hpd, by rw [← hv8]; exact h8⟩, rr.trans (b8.mono rr.size)⟩
          rw [h8.2.1, hv8]
          refine Nat.le_trans (length_digs_le (Nat.lt_of_lt_of_le hpl (len_ten _))) ?_
          have h9 := congrArg List.length HST.out.2.2.2.1.1
          rw [List.length_append] at h9
          omega
        case measure =>
          show (rest.drop (k + 1)).length < rest.length
          rw [HND.out, HLR.out]; omega
  · go_enter Tryz.func76, Tryz.ntmps76
    go_wp2_with (first
      | (go_at_call 125; (with_reducible refine (prefix_v _ l _ HM.out.1).mono ?_); rintro e w1 ⟨rfl, hb1⟩; have b1 := b0.trans (hb1.mono b0.size); have x1 := x0.below hb1 x0.lt)
      | (go_at_call 126; (with_reducible refine (tprefix_v _ l _ HM.out.2).mono ?_); rintro e w2 ⟨rfl, hb2⟩; have b2 := b1.trans (hb2.mono b1.size); have x2 := x1.below hb2 x1.lt)
      | (go_at_call 127; (with_reducible refine (trim_v _ _ [] ?_ HX.out).mono ?_); (exact HTL.out); rintro e w3 ⟨rfl, hb3⟩; have b3 := b2.trans (hb3.mono b2.size); have x3 := x2.below hb3 x2.lt))
    clear htl0 htl1
    go_loopw [5, 6] (fun tv mv wr => ParseI [48] w3 wr tv mv) (fun tv _ _ => strLen tv)
    case atStart => exact ⟨[], [48], none, 0, 0, rfl, rfl, by omega, HLL.out, ⟨GrpI.start _, rfl, HALL.out, by rw [show decVal [] = 0 from rfl, digs_zero]; exact Wd.nil_ _⟩, brefl _⟩
    case round =>
      obtain ⟨pre, rest, A1, n1, c1, rfl, rfl, hn1, hrl, hK, rr⟩ := hrel
      have bw := b3.trans (rr.mono b3.size)
      have x4 := x3.below rr x3.lt
      by_cases hr0 : rest = []
      · subst hr0
        have hpre := hK.1.fin
        subst hpre
        have hsz1 := size_v []
        go_wp2_with (go_at_call 122; (with_reducible refine (whole_c _ false A1 n1 c1 (digs (decVal [48])) ?_ ?_).mono ?_); (exact hK.2.2.2); omega; rintro e w5 ⟨A5, n5, c5, rfl, h5, hb5⟩; have b5 := bw.trans (hb5.mono bw.size); have x5 := x4.below hb5 x4.lt; obtain ⟨d0, d1⟩ := x5.c2; obtain ⟨f0, f1⟩ := x5.f2)
        rw [val_digs] at h5
        have hz : sgn false (decVal [48]) = valZ l := by rw [HV.out]; rfl
        rw [hz] at h5
        refine bodyPost_ret (v := .tuple #[.agg #[.bool _, .slice A5 n5 c5], .nilIface]) (by simp [results, Tryz.results76, go_sem, *] <;> first | rfl | exact ⟨rfl, rfl⟩) rfl ?_
        exact ⟨_, _, _, _, rfl, IV.mk_ (h5.keep (kp2 x5.box (by decide) _ _ _ _)) (by rw [val_digs, hz]) HSZ.out, (b5.setCell (by dsimp only; omega) _).setCell (by dsimp only; omega) _⟩
      · have hlp : 0 < rest.length := List.length_pos_iff.2 hr0
        obtain ⟨L, hL⟩ : ∃ L, rest.length = L := ⟨_, rfl⟩
        obtain ⟨k, hk⟩ : ∃ k, (L - 1) % 9 = k := ⟨_, rfl⟩
        have hk9 : k < 9 := by rw [← hk]; exact Nat.mod_lt _ (by omega)
        have hst := hK.1.step (n := k + 1) hlp (by rw [hL, hk])
        rw [hL] at hst hlp hrl
        have hkL := hst.1
        have hsz1 : (⟨rest.toArray⟩ : ByteArray).size = L := hL
        have e1 : ((L : Int) - 1) % 9 = (k : Int) := by omega
        have e2 : (⟨rest.toArray⟩ : ByteArray).extract 0 (k + 1) = ⟨(rest.take (k + 1)).toArray⟩ := by rw [ext_v]; simp
        have e3 : (⟨rest.toArray⟩ : ByteArray).extract (k + 1) L = ⟨(rest.drop (k + 1)).toArray⟩ := by rw [ext_v, List.take_of_length_le]; rw [List.length_drop, hL]; exact Nat.le_refl _
        obtain ⟨x, hx⟩ : ∃ x, decVal (rest.take (k + 1)) = x := ⟨_, rfl⟩
        have htk := all_take hK.2.2.1 (k + 1)
        have hx9 : x < 1000000000 := by
          have h9 := decVal_lt htk
          rw [hx] at h9
          refine Nat.lt_of_lt_of_le h9 (Nat.le_trans (Nat.pow_le_pow_right (by omega) (show (rest.take (k + 1)).length ≤ 9 by rw [List.length_take]; omega)) (by decide))
        have hpd := all_drop hK.2.2.1 (k + 1)
        have HST := Lib.hid hst
        have HXX := Lib.hid hx
        have HTK := Lib.hid htk
        have HLR := Lib.hid hL
        have hnd : (rest.drop (k + 1)).length = L - (k + 1) := by rw [List.length_drop, hL]
        have HND := Lib.hid hnd
        have hT1 : (rest.take (k + 1)).length ≤ 9 := by rw [List.length_take]; omega
        have hT0 : rest.take (k + 1) ≠ [] := fun e => by have := congrArg List.length e; rw [List.length_take, hL] at this; simp at this; omega
        have HT1 := Lib.hid (And.intro hT1 hT0)
        have hpl := decVal_lt (show (pre ++ rest.take (k + 1)).all isDg = true by rw [List.all_append, hK.2.1, htk]; rfl)
        clear hk hst hx htk hL hr0 hnd hT1 hT0
        go_wp2_with (first
          | (go_at_call 131; (with_reducible refine (atoi_v _ (rest.take (k + 1)) x ?_ ?_ ?_ HXX.out).mono ?_); (exact HT1.out.1); (exact HT1.out.2); (exact HTK.out); rintro e w5 ⟨rfl, hb5⟩; have b5 : Below wr.heap.size wr (w5.alloc (.cells #[.int .u32 1000000000] 82)) := hb5.alloc hb5.size _; have y5 : Blk (w5.alloc (.cells #[.int .u32 1000000000] 82)) w5.heap.size 82 #[.int .u32 1000000000] := blkAt _ _ _ rfl)
          | (go_at_call 133; (with_reducible refine (times_n _ A1 n1 c1 (decVal pre) ?_ ?_ w5.heap.size 1000000000 1000000000 ?_ ?_ ?_).mono ?_); (exact hK.2.2.2.belw b5); omega; rfl; omega; (exact y5); rintro e w6 ⟨A6, n6, c6, rfl, h6, hb6⟩; have b6 := b5.trans (hb6.mono b5.size); have hn6 : n6 ≤ 1000000000 := (by have h9 := h6.2.1; rw [h9]; refine Nat.le_trans (length_digs_le (k := n1 + 1) ?_) (by omega); have h8 := (hK.2.2.2).vlt (Nat.le_refl _); rw [val_digs] at h8; rw [Nat.pow_succ]; exact Nat.mul_lt_mul'' h8 (by omega)))
          | (go_at_call 134; (with_reducible refine (trim_n _ w6.heap.size (x : Int) x ?_ ?_ ?_).mono ?_); (first | rfl | omega); omega; (exact blkAt _ _ _ rfl); rintro e w7 ⟨A7, n7, c7, rfl, h7, hb7⟩; have b7 : Below wr.heap.size wr w7 := (b6.alloc b6.size _).trans (hb7.mono (by have := b6.size; simp; omega)); have h67 : Below w6.heap.size w6 w7 := ((brefl w6).alloc (Nat.le_refl _) _).trans (hb7.mono (by simp)); have hn7 : n7 ≤ 1000000000 := (by have h9 := h7.2.1; rw [h9]; exact Nat.le_trans (length_digs_le (k := 1) (by omega)) (by omega)))
          | (go_at_call 132; (with_reducible refine (plus_k _ A6 n6 c6 (decVal pre * 1000000000) ?_ ?_ A7 n7 c7 x ?_ ?_).mono ?_); (exact h6.belw h67); omega; (exact h7); omega; rintro e w8 ⟨A8, n8, c8, rfl, h8, hb8⟩; have b8 := b7.trans (hb8.mono b7.size)))
        have hv8 : decVal pre * 1000000000 + x = decVal (pre ++ rest.take (k + 1)) := by rw [HST.out.2.2.2.2, HXX.out]
        go_roundw
        case rel =>
          refine ⟨pre ++ rest.take (k + 1), rest.drop (k + 1), A8, n8, c8, rfl, rfl, ?_, by rw [HND.out]; omega, ⟨HST.out.2.2.2.1, by rw [List.all_append, hK.2.1, HTK.out]; rfl, hpd, by rw [← hv8]; exact h8⟩, rr.trans (b8.mono rr.size)⟩
          rw [h8.2.1, hv8]
          refine Nat.le_trans (length_digs_le (Nat.lt_of_lt_of_le hpl (len_ten _))) ?_
          have h9 := congrArg List.length HST.out.2.2.2.1.1
          rw [List.length_append] at h9
          omega
        case measure =>
          show (rest.drop (k + 1)).length < rest.length
          rw [HND.out, HLR.out]; omega
end Go.Proofs.YtoiijifnfdgfpaaGreatDoor

/- Tokens: plain. -/
namespace Bn
def isLet (c : UInt8) : Bool := (decide (97 ≤ c.toNat) && decide (c.toNat ≤ 122)) || (decide (65 ≤ c.toNat) && decide (c.toNat ≤ 90))
def isPart (c : UInt8) : Bool := isLet c || isDg c || c == 95
def isSgn (c : UInt8) : Bool := c == 123 || c == 125 || c == 59 || c == 46
def isBlk (c : UInt8) : Bool := c == 32 || c == 9 || c == 13
def wordN : List UInt8 → Nat
  | [] => 0
  | c :: t => if isLet c then 1 + (t.takeWhile isPart).length else 0
def digN (r : List UInt8) : Nat := (r.takeWhile isDg).length
def minN : List UInt8 → Nat
  | 45 :: _ => 1
  | _ => 0
def tailN : List UInt8 → Nat
  | c :: t => if (c == 46 || c == 47) && decide (0 < digN t) then 1 + digN t else 0
  | [] => 0
def numN (r : List UInt8) : Nat := if digN (r.drop (minN r)) = 0 then 0 else minN r + digN (r.drop (minN r)) + tailN (r.drop (minN r + digN (r.drop (minN r))))
def badEnd : List UInt8 → Bool
  | c :: _ => isLet c || c == 95 || c == 46 || c == 47
  | [] => false
inductive First where
  | ok (kind n : Nat)
  | err (x : Nat)
def firstT (r : List UInt8) : First := match r with
  | [] => .err 2
  | c :: _ => if isSgn c then .ok 2 1 else if 0 < wordN r then (if 24 < wordN r then .err 5 else .ok 0 (wordN r))
    else if numN r = 0 then .err 2 else if 60 < numN r then .err 4 else if badEnd (r.drop (numN r)) then .err 2 else .ok 1 (numN r)
structure Tkn where
  kind : Nat
  text : List UInt8
  line : Nat
  col : Nat
deriving DecidableEq
inductive Toks where
  | ok (l : List Tkn)
  | err (x : Nat)
def Toks.push (t : Tkn) : Toks → Toks
  | .ok l => .ok (t :: l)
  | .err x => .err x
def comN (r : List UInt8) : Nat := (r.takeWhile (fun c => c != 10)).length
def toks : Nat → List UInt8 → Nat → Nat → Toks
  | 0, _, _, _ => .ok []
  | _ + 1, [], _, _ => .ok []
  | f + 1, c :: t, line, col =>
    if c = 10 then toks f t (line + 1) 1
    else if isBlk c then toks f t line (col + 1)
    else if c = 37 then toks f ((c :: t).drop (comN (c :: t))) line (col + comN (c :: t))
    else match firstT (c :: t) with
      | .err x => .err x
      | .ok k n => (toks f ((c :: t).drop n) line (col + n)).push ⟨k, (c :: t).take n, line, col⟩
theorem tw_le (p : UInt8 → Bool) (l : List UInt8) : (l.takeWhile p).length ≤ l.length := (List.takeWhile_sublist p).length_le
theorem digN_le (r : List UInt8) : digN r ≤ r.length := tw_le _ _
theorem wordN_le : ∀ (r : List UInt8), wordN r ≤ r.length
  | [] => Nat.le_refl _
  | c :: t => by
    rw [wordN]
    have := tw_le isPart t
    simp only [List.length_cons]
    split <;> omega
theorem tailN_le : ∀ (r : List UInt8), tailN r ≤ r.length
  | [] => Nat.le_refl _
  | c :: t => by
    rw [tailN]
    have := digN_le t
    simp only [List.length_cons]
    split <;> omega
theorem minN_le : ∀ (r : List UInt8), minN r ≤ r.length
  | [] => Nat.le_refl _
  | c :: t => by unfold minN; split <;> simp
theorem numN_le (r : List UInt8) : numN r ≤ r.length := by
  unfold numN
  split
  · omega
  · have h1 := digN_le (r.drop (minN r))
    have h2 := tailN_le (r.drop (minN r + digN (r.drop (minN r))))
    have h3 := minN_le r
    rw [List.length_drop] at h1 h2
    omega
theorem comN_le (r : List UInt8) : comN r ≤ r.length := tw_le _ _
theorem comN_pos {t : List UInt8} : 0 < comN (37 :: t) := by unfold comN; simp
theorem firstT_ok {r : List UInt8} {k n : Nat} (h : firstT r = .ok k n) : 0 < n ∧ n ≤ r.length := by
  unfold firstT at h
  split at h
  · cases h
  · rename_i c t
    split at h
    · injection h with _ h; subst h; simp
    · split at h
      · split at h
        · cases h
        · injection h with _ h; subst h; exact ⟨by assumption, wordN_le _⟩
      · split at h
        · cases h
        · split at h
          · cases h
          · split at h
            · cases h
            · injection h with _ h; subst h; exact ⟨by omega, numN_le _⟩
theorem toks_fuel : ∀ (f g : Nat) (r : List UInt8) (line col : Nat), r.length < f → r.length < g → toks f r line col = toks g r line col := by
  intro f
  induction f with
  | zero => intro g r _ _ h; omega
  | succ f ih =>
    intro g r line col hf hg
    cases g with
    | zero => omega
    | succ g =>
      cases r with
      | nil => rfl
      | cons c t =>
        simp only [List.length_cons] at hf hg
        unfold toks
        split
        · exact ih g t _ _ (by omega) (by omega)
        · split
          · exact ih g t _ _ (by omega) (by omega)
          · split
            · rename_i h37
              subst h37
              have h1 := comN_pos (t := t)
              have h2 := comN_le (37 :: t)
              simp only [List.length_cons] at h2
              exact ih g _ _ _ (by rw [List.length_drop]; simp only [List.length_cons]; omega) (by rw [List.length_drop]; simp only [List.length_cons]; omega)
            · split
              · rfl
              · rename_i k n h
                have h1 := firstT_ok h
                simp only [List.length_cons] at h1
                rw [ih g _ _ _ (by rw [List.length_drop]; simp only [List.length_cons]; omega) (by rw [List.length_drop]; simp only [List.length_cons]; omega)]
def tokens (s : List UInt8) : Toks := toks (s.length + 1) s 1 1
end Bn

/- Tokens of joined texts: plain. -/
namespace Bn
def sepB (c : UInt8) : Bool := c == 32 || c == 9 || c == 10 || c == 13 || c == 37
def SepE (e : List UInt8) : Prop := e = [] ∨ ∃ c t, e = c :: t ∧ sepB c = true
theorem sepB_not {c : UInt8} (h : sepB c = true) : isPart c = false ∧ isDg c = false ∧ (c == 46) = false ∧ (c == 47) = false ∧ isLet c = false ∧ (c == 95) = false := by
  unfold sepB at h
  simp only [Bool.or_eq_true, beq_iff_eq] at h
  rcases h with (((h | h) | h) | h) | h <;> subst h <;> decide
theorem tw_all {p : UInt8 → Bool} : ∀ (l : List UInt8), (l.takeWhile p).all p = true := by
  intro l
  induction l with
  | nil => rfl
  | cons x r ih =>
    rw [List.takeWhile_cons]
    split
    · rename_i h; rw [List.all_cons, h, ih]; rfl
    · rfl
theorem tw_app {p : UInt8 → Bool} : ∀ {a : List UInt8} (e : List UInt8), a.all p = true → (∀ c t, e = c :: t → p c = false) → (a ++ e).takeWhile p = a := by
  intro a
  induction a with
  | nil =>
    intro e _ he
    cases e with
    | nil => rfl
    | cons c t => rw [List.nil_append, List.takeWhile_cons, he c t rfl]; rfl
  | cons x r ih =>
    intro e h he
    rw [List.all_cons, Bool.and_eq_true] at h
    rw [List.cons_append, List.takeWhile_cons, h.1, if_pos rfl, ih e h.2 he]
theorem tw_split (p : UInt8 → Bool) (l : List UInt8) : ∃ d, l = l.takeWhile p ++ d ∧ (∀ c t, d = c :: t → p c = false) := by
  refine ⟨l.dropWhile p, (List.takeWhile_append_dropWhile).symm, fun c t h => ?_⟩
  induction l with
  | nil => simp at h
  | cons x r ih =>
    rw [List.dropWhile_cons] at h
    split at h
    · exact ih h
    · injection h with h1 _; subst h1; simp_all
theorem SepE.np {e : List UInt8} (h : SepE e) (c : UInt8) (t : List UInt8) (he : e = c :: t) : sepB c = true := by
  rcases h with h | ⟨c', t', h, hs⟩
  · rw [h] at he; cases he
  · rw [h] at he; injection he with h1 _; rw [← h1]; exact hs
theorem dg_no10 {l : List UInt8} (h : l.all isDg = true) : 10 ∉ l := fun h1 => by
  rw [List.all_eq_true] at h
  exact absurd (h 10 h1) (by decide)
theorem tail_form (r : List UInt8) : ∃ M d, r = M ++ d ∧ tailN r = M.length ∧ 10 ∉ M ∧ ∀ e, SepE e → tailN (M ++ e) = M.length ∧ (∀ c t, M ++ e = c :: t → isDg c = false) := by
  have hs : ∀ e, SepE e → tailN ([] ++ e) = 0 ∧ (∀ c t, ([] : List UInt8) ++ e = c :: t → isDg c = false) := by
    intro e he
    rw [List.nil_append]
    refine ⟨?_, fun c t h => (sepB_not (he.np c t h)).2.1⟩
    cases e with
    | nil => rfl
    | cons c t =>
      have := sepB_not (he.np c t rfl)
      rw [tailN, this.2.2.1, this.2.2.2.1]; rfl
  cases r with
  | nil => exact ⟨[], [], rfl, rfl, by simp, hs⟩
  | cons c t =>
    by_cases h : ((c == 46 || c == 47) && decide (0 < digN t)) = true
    · obtain ⟨d, h1, h2⟩ := tw_split isDg t
      have h3 : (c == 46 || c == 47) = true := by rw [Bool.and_eq_true] at h; exact h.1
      have h4 : 0 < digN t := by rw [Bool.and_eq_true, decide_eq_true_eq] at h; exact h.2
      refine ⟨c :: t.takeWhile isDg, d, by rw [List.cons_append, ← h1], ?_, ?_, ?_⟩
      · rw [tailN, h, if_pos rfl, List.length_cons]; unfold digN; omega
      · intro h6
        rcases List.mem_cons.1 h6 with e | e
        · subst e; exact absurd h3 (by decide)
        · exact dg_no10 (tw_all t) e
      · intro e he
        have h5 : digN (t.takeWhile isDg ++ e) = (t.takeWhile isDg).length := by
          unfold digN
          rw [tw_app e (tw_all t) (fun c t h => (sepB_not (he.np c t h)).2.1)]
        refine ⟨?_, fun c' t' h' => ?_⟩
        · rw [List.cons_append, tailN, h5, h3]
          have : 0 < (t.takeWhile isDg).length := h4
          rw [if_pos (by simp; exact this), List.length_cons]; omega
        · injection h' with h6 _
          subst h6
          rw [Bool.or_eq_true, beq_iff_eq, beq_iff_eq] at h3
          rcases h3 with e | e <;> subst e <;> decide
    · have h' : ((c == 46 || c == 47) && decide (0 < digN t)) = false := by simpa using h
      exact ⟨[], c :: t, rfl, by rw [tailN, h']; rfl, by simp, hs⟩
theorem minN_digit {c : UInt8} {t : List UInt8} (h : isDg c = true) : minN (c :: t) = 0 := by
  unfold minN
  split
  · rename_i h1; injection h1 with h1 _; subst h1; exact absurd h (by decide)
  · rfl
theorem num_form {r : List UInt8} (h : 0 < numN r) : ∃ P d c t, r = P ++ d ∧ P.length = numN r ∧ P = c :: t ∧ (isDg c = true ∨ c = 45) ∧ 10 ∉ P ∧ ∀ e, SepE e → numN (P ++ e) = P.length := by
  have hk : 0 < digN (r.drop (minN r)) := by
    rcases Nat.eq_zero_or_pos (digN (r.drop (minN r))) with e | e
    · unfold numN at h; rw [if_pos e] at h; omega
    · exact e
  obtain ⟨d0, e0, g0⟩ := tw_split isDg (r.drop (minN r))
  obtain ⟨D, hD⟩ : ∃ D, (r.drop (minN r)).takeWhile isDg = D := ⟨_, rfl⟩
  have hDa : D.all isDg = true := by rw [← hD]; exact tw_all _
  have hDl : digN (r.drop (minN r)) = D.length := by unfold digN; rw [hD]
  rw [hD] at e0
  rw [hDl] at hk
  obtain ⟨x, D', hx⟩ : ∃ x D', D = x :: D' := by
    cases D with
    | nil => simp at hk
    | cons x D' => exact ⟨x, D', rfl⟩
  have hxd : isDg x = true := by rw [hx, List.all_cons, Bool.and_eq_true] at hDa; exact hDa.1
  have hdd : (r.drop (minN r)).drop D.length = d0 := by rw [e0]; simp
  obtain ⟨M, d, e1, e2, e10, e3⟩ := tail_form d0
  have hn : numN r = minN r + D.length + M.length := by
    unfold numN
    rw [hDl, if_neg (by omega), ← List.drop_drop, hdd, e2]
  have hmin : (minN r = 0 ∧ r = D ++ d0) ∨ (minN r = 1 ∧ r = 45 :: (D ++ d0)) := by
    cases r with
    | nil => simp [minN] at e0; left; exact ⟨rfl, by simpa using e0⟩
    | cons c t =>
      by_cases hc : c = 45
      · subst hc; right; refine ⟨rfl, ?_⟩
        have : minN (45 :: t) = 1 := rfl
        rw [this] at e0
        simp at e0
        rw [← e0]
      · left
        have : minN (c :: t) = 0 := by
          unfold minN; split
          · rename_i h1; injection h1 with h1 _; exact absurd h1 hc
          · rfl
        refine ⟨this, ?_⟩
        rw [this] at e0
        simpa using e0
  have key : ∀ e, SepE e → digN (D ++ (M ++ e)) = D.length ∧ tailN (M ++ e) = M.length := by
    intro e he
    obtain ⟨h1, h2⟩ := e3 e he
    refine ⟨?_, h1⟩
    unfold digN
    rw [tw_app (M ++ e) hDa h2]
  rcases hmin with ⟨m0, hr⟩ | ⟨m1, hr⟩
  · refine ⟨D ++ M, d, x, D' ++ M, by rw [hr, e1, List.append_assoc], by rw [hn, m0, List.length_append]; omega, by rw [hx]; rfl, .inl hxd, fun h => by rcases List.mem_append.1 h with h | h; exact dg_no10 hDa h; exact e10 h, fun e he => ?_⟩
    obtain ⟨h1, h2⟩ := key e he
    have hm : minN (D ++ M ++ e) = 0 := by rw [hx]; exact minN_digit hxd
    unfold numN
    rw [hm, List.drop_zero, List.append_assoc, h1, if_neg (by omega), Nat.zero_add, List.drop_left, h2, List.length_append]
  · refine ⟨45 :: (D ++ M), d, 45, D ++ M, by rw [hr, e1, List.cons_append, List.append_assoc], by rw [hn, m1, List.length_cons, List.length_append]; omega, rfl, .inr rfl, fun h => by rcases List.mem_cons.1 h with h | h; exact absurd h (by decide); rcases List.mem_append.1 h with h | h; exact dg_no10 hDa h; exact e10 h, fun e he => ?_⟩
    obtain ⟨h1, h2⟩ := key e he
    have hm : minN (45 :: (D ++ M) ++ e) = 1 := rfl
    unfold numN
    rw [hm]
    rw [show (45 :: (D ++ M) ++ e).drop 1 = D ++ (M ++ e) by simp]
    rw [h1, if_neg (by omega), ← List.drop_drop]
    rw [show (45 :: (D ++ M) ++ e).drop 1 = D ++ (M ++ e) by simp]
    rw [List.drop_left, h2, List.length_cons, List.length_append]
    omega
theorem first_again {r : List UInt8} {k n : Nat} (h : firstT r = .ok k n) {e : List UInt8} (he : SepE e) : firstT (r.take n ++ e) = .ok k n := by
  unfold firstT at h
  split at h
  · cases h
  · rename_i c t
    split at h
    · rename_i hs
      injection h with h1 h2; subst h1; subst h2
      show firstT (c :: e) = _
      unfold firstT
      simp only [hs, if_true]
    · rename_i hs
      split at h
      · rename_i hw
        split at h
        · cases h
        · rename_i h24
          injection h with h1 h2; subst h1
          have hl : isLet c = true := by
            rw [wordN] at hw; split at hw
            · assumption
            · omega
          have hwn : wordN (c :: t) = 1 + (t.takeWhile isPart).length := by rw [wordN, hl, if_pos rfl]
          obtain ⟨d, e1, _⟩ := tw_split isPart t
          have ht : (c :: t).take n = c :: t.takeWhile isPart := by
            rw [← h2, hwn, Nat.add_comm, List.take_succ_cons]
            congr 1
            exact (congrArg (List.take _) e1).trans List.take_left
          have hw2 : wordN (c :: (t.takeWhile isPart ++ e)) = n := by
            rw [wordN, hl, if_pos rfl, tw_app e (tw_all t) (fun c t h => (sepB_not (he.np c t h)).1), ← hwn, h2]
          rw [ht, List.cons_append]
          unfold firstT
          simp only [hs, hw2]
          rw [h2] at hw h24
          simp [hw, h24]
      · rename_i hw
        split at h
        · cases h
        · rename_i hn0
          split at h
          · cases h
          · rename_i h60
            split at h
            · cases h
            · injection h with h1 h2; subst h1
              obtain ⟨P, d, x, P', e1, e2, e3, e4, _, e5⟩ := num_form (Nat.pos_of_ne_zero hn0)
              have hP : (c :: t).take n = P := by rw [← h2, ← e2, e1]; exact List.take_left
              have hxc : x = c := by rw [e3, List.cons_append] at e1; injection e1 with h _; exact h.symm
              subst hxc
              have hsx : isSgn x = false := by simpa using hs
              have hlx : isLet x = false := by
                rcases e4 with h | h
                · unfold isDg at h; unfold isLet; simp at h ⊢; omega
                · subst h; decide
              rw [hP]
              have h7 := e5 e he
              have h8 : wordN (P ++ e) = 0 := by rw [e3, List.cons_append, wordN, hlx]; rfl
              have h9 : badEnd ((P ++ e).drop P.length) = false := by
                rw [List.drop_left]
                cases e with
                | nil => rfl
                | cons a b => have := sepB_not (he.np a b rfl); simp [badEnd, this.2.2.1, this.2.2.2.1, this.2.2.2.2.1, this.2.2.2.2.2]
              have hPn : P.length = n := by rw [e2, h2]
              have hform : firstT (P ++ e) = (if isSgn x then .ok 2 1 else if 0 < wordN (P ++ e) then (if 24 < wordN (P ++ e) then .err 5 else .ok 0 (wordN (P ++ e))) else if numN (P ++ e) = 0 then .err 2 else if 60 < numN (P ++ e) then .err 4 else if badEnd ((P ++ e).drop (numN (P ++ e))) then .err 2 else .ok 1 (numN (P ++ e))) := by
                rw [e3, List.cons_append]; rfl
              rw [hform, h8, h7, h9, hsx, hPn]
              rw [h2] at hn0 h60
              simp [hn0, h60]
theorem first_no10 {r : List UInt8} {k n : Nat} (h : firstT r = .ok k n) : 10 ∉ r.take n := by
  unfold firstT at h
  split at h
  · cases h
  · rename_i c t
    split at h
    · rename_i hs
      injection h with h1 h2; subst h2
      intro h3
      have h4 : (10 : UInt8) = c := by simpa using h3
      subst h4; exact absurd hs (by decide)
    · split at h
      · rename_i hw
        split at h
        · cases h
        · injection h with h1 h2
          have hl : isLet c = true := by
            rw [wordN] at hw; split at hw
            · assumption
            · omega
          have hwn : wordN (c :: t) = 1 + (t.takeWhile isPart).length := by rw [wordN, hl, if_pos rfl]
          obtain ⟨d, e1, _⟩ := tw_split isPart t
          have ht : (c :: t).take n = c :: t.takeWhile isPart := by
            rw [← h2, hwn, Nat.add_comm, List.take_succ_cons]
            congr 1
            exact (congrArg (List.take _) e1).trans List.take_left
          rw [ht]
          intro h3
          rcases List.mem_cons.1 h3 with e | e
          · subst e; exact absurd hl (by decide)
          · have := tw_all (p := isPart) t
            rw [List.all_eq_true] at this
            exact absurd (this 10 e) (by decide)
      · split at h
        · cases h
        · rename_i hn0
          split at h
          · cases h
          · split at h
            · cases h
            · injection h with h1 h2
              obtain ⟨P, d, x, P', e1, e2, e3, e4, e10, e5⟩ := num_form (Nat.pos_of_ne_zero hn0)
              have hP : (c :: t).take n = P := by rw [← h2, ← e2, e1]; exact List.take_left
              rw [hP]; exact e10
end Bn

/- Tokens of joined texts, blanks and comments between them: plain. -/
namespace Bn
def tk (r : List UInt8) (line col : Nat) : Toks := toks (r.length + 1) r line col
theorem tk_nil (line col : Nat) : tk [] line col = .ok [] := rfl
theorem tk_line (t : List UInt8) (line col : Nat) : tk (10 :: t) line col = tk t (line + 1) 1 := by
  unfold tk
  rw [List.length_cons]
  conv => lhs; unfold toks
  rw [if_pos rfl]
theorem isBlk_not {c : UInt8} (h : isBlk c = true) : c ≠ 10 := by
  rintro rfl; exact absurd h (by decide)
theorem tk_blank {c : UInt8} (h : isBlk c = true) (t : List UInt8) (line col : Nat) : tk (c :: t) line col = tk t line (col + 1) := by
  unfold tk
  rw [List.length_cons]
  conv => lhs; unfold toks
  rw [if_neg (isBlk_not h), if_pos h]
theorem tk_com (t : List UInt8) (line col : Nat) : tk (37 :: t) line col = tk ((37 :: t).drop (comN (37 :: t))) line (col + comN (37 :: t)) := by
  have h1 := comN_pos (t := t)
  have h2 := comN_le (37 :: t)
  unfold tk
  conv => lhs; rw [List.length_cons]; unfold toks
  rw [if_neg (by decide), if_neg (by decide), if_pos rfl]
  simp only [List.length_cons] at h2
  refine toks_fuel _ _ _ _ _ ?_ ?_ <;> rw [List.length_drop, List.length_cons] <;> omega
theorem firstT_head {c : UInt8} {t : List UInt8} {k n : Nat} (h : firstT (c :: t) = .ok k n) : c ≠ 10 ∧ isBlk c = false ∧ c ≠ 37 := by
  have key : ∀ c : UInt8, isSgn c = false → isLet c = false → isDg c = false → c ≠ 45 → ∀ t k n, firstT (c :: t) ≠ .ok k n := by
    intro c h1 h2 h3 h4 t k n h
    have hw : wordN (c :: t) = 0 := by rw [wordN, h2]; rfl
    have hm : minN (c :: t) = 0 := by
      unfold minN; split
      · rename_i h5; injection h5 with h5 _; exact absurd h5 h4
      · rfl
    have hn : numN (c :: t) = 0 := by
      unfold numN
      rw [hm, List.drop_zero, if_pos (by unfold digN; rw [List.takeWhile_cons, h3]; rfl)]
    unfold firstT at h
    simp [h1, hw, hn] at h
  refine ⟨?_, ?_, ?_⟩
  · rintro rfl; exact key 10 (by decide) (by decide) (by decide) (by decide) t k n h
  · cases hb : isBlk c
    · rfl
    · exfalso
      unfold isBlk at hb
      simp only [Bool.or_eq_true, beq_iff_eq] at hb
      rcases hb with (e | e) | e <;> subst e
      · exact key 32 (by decide) (by decide) (by decide) (by decide) t k n h
      · exact key 9 (by decide) (by decide) (by decide) (by decide) t k n h
      · exact key 13 (by decide) (by decide) (by decide) (by decide) t k n h
  · rintro rfl; exact key 37 (by decide) (by decide) (by decide) (by decide) t k n h
theorem tk_tok {c : UInt8} {t : List UInt8} {k n : Nat} (h : firstT (c :: t) = .ok k n) (line col : Nat) :
    tk (c :: t) line col = (tk ((c :: t).drop n) line (col + n)).push ⟨k, (c :: t).take n, line, col⟩ := by
  obtain ⟨h1, h2, h3⟩ := firstT_head h
  have h4 := firstT_ok h
  unfold tk
  conv => lhs; rw [List.length_cons]; unfold toks
  rw [if_neg h1, if_neg (by rw [h2]; simp), if_neg h3, h]
  simp only [List.length_cons] at h4
  dsimp only
  rw [toks_fuel (t.length + 1) (((c :: t).drop n).length + 1) _ _ _ (by rw [List.length_drop, List.length_cons]; omega) (by omega)]
theorem tk_err {c : UInt8} {t : List UInt8} {x : Nat} (h : firstT (c :: t) = .err x) (h1 : c ≠ 10) (h2 : isBlk c = false) (h3 : c ≠ 37) (line col : Nat) : tk (c :: t) line col = .err x := by
  unfold tk
  rw [List.length_cons]
  unfold toks
  rw [if_neg h1, if_neg (by rw [h2]; simp), if_neg h3, h]
def Skip (s : List UInt8) : Prop := ∀ rest line col, ∃ line' col', tk (s ++ rest) line col = tk rest line' col'
theorem Skip.nil : Skip [] := fun _ line col => ⟨line, col, rfl⟩
theorem Skip.line {s : List UInt8} (h : Skip s) : Skip (10 :: s) := fun rest line col => by
  obtain ⟨a, b, e⟩ := h rest (line + 1) 1
  exact ⟨a, b, by rw [List.cons_append, tk_line, e]⟩
theorem Skip.blank {c : UInt8} {s : List UInt8} (hc : isBlk c = true) (h : Skip s) : Skip (c :: s) := fun rest line col => by
  obtain ⟨a, b, e⟩ := h rest line (col + 1)
  exact ⟨a, b, by rw [List.cons_append, tk_blank hc, e]⟩
theorem Skip.com {s u : List UInt8} (hu : 10 ∉ u) (h : Skip s) : Skip (37 :: (u ++ 10 :: s)) := fun rest line col => by
  obtain ⟨a, b, e⟩ := h rest (line + 1) 1
  refine ⟨a, b, ?_⟩
  have hc : comN (37 :: (u ++ 10 :: (s ++ rest))) = u.length + 1 := by
    unfold comN
    have h1 : (37 :: u).all (fun c => c != 10) = true := by
      rw [List.all_eq_true]; intro x hx
      rcases List.mem_cons.1 hx with e | e
      · subst e; decide
      · simp; rintro rfl; exact hu e
    have := tw_app (p := fun c => c != 10) (a := 37 :: u) (10 :: (s ++ rest)) h1 (fun c t h => by injection h with h _; subst h; rfl)
    rw [← List.cons_append, this, List.length_cons]
  have e1 : (37 :: (u ++ 10 :: s)) ++ rest = 37 :: (u ++ 10 :: (s ++ rest)) := by simp
  rw [e1, tk_com, hc, List.drop_succ_cons, List.drop_left, tk_line, e]
def shape : Toks → Option (List (Nat × List UInt8))
  | .ok l => some (l.map fun t => (t.kind, t.text))
  | .err _ => none
theorem shape_push (t : Tkn) (x : Toks) : shape (x.push t) = (shape x).map ((t.kind, t.text) :: ·) := by
  cases x <;> rfl
def GoodT (k : Nat) (x : List UInt8) : Prop := ∃ r n, firstT r = .ok k n ∧ x = r.take n
theorem GoodT.again {k : Nat} {x e : List UInt8} (h : GoodT k x) (he : SepE e) : ∃ c t, x ++ e = c :: t ∧ firstT (c :: t) = .ok k x.length := by
  obtain ⟨r, n, h1, rfl⟩ := h
  have h2 := firstT_ok h1
  have h3 := first_again h1 he
  have hl : (r.take n).length = n := by rw [List.length_take]; omega
  cases hx : r.take n ++ e with
  | nil =>
    have := congrArg List.length hx
    rw [List.length_append, hl] at this
    simp at this; omega
  | cons c t => exact ⟨c, t, rfl, by rw [← hx, h3, hl]⟩
def glue : List (Nat × List UInt8 × List UInt8) → List UInt8
  | [] => []
  | (_, x, s) :: r => x ++ (s ++ glue r)
theorem glue_tk : ∀ {L : List (Nat × List UInt8 × List UInt8)}, (∀ p ∈ L, GoodT p.1 p.2.1 ∧ Skip p.2.2) →
    (∀ (i : Nat) p, L[i]? = some p → i + 1 < L.length → ∃ c t, p.2.2 = c :: t ∧ sepB c = true) → (∀ p, L.getLast? = some p → p.2.2 = [] ∨ ∃ c t, p.2.2 = c :: t ∧ sepB c = true) →
    ∀ line col, shape (tk (glue L) line col) = some (L.map fun p => (p.1, p.2.1)) := by
  intro L
  induction L with
  | nil => intro _ _ _ line col; rfl
  | cons p r ih =>
    intro h1 h2 h3 line col
    obtain ⟨k, x, s⟩ := p
    obtain ⟨hg, hs⟩ := h1 (k, x, s) (by simp)
    have he : SepE (s ++ glue r) := by
      cases r with
      | nil =>
        rcases h3 (k, x, s) rfl with e | ⟨c, t, e, hc⟩
        · left; rw [show s = [] from e]; rfl
        · right; exact ⟨c, t ++ glue [], by rw [show s = c :: t from e]; rfl, hc⟩
      | cons q r' =>
        obtain ⟨c, t, e, hc⟩ := h2 0 (k, x, s) rfl (by simp)
        right
        exact ⟨c, t ++ glue (q :: r'), by rw [show s = c :: t from e]; rfl, hc⟩
    obtain ⟨c, t, e1, e2⟩ := hg.again he
    obtain ⟨l', c', e3⟩ := hs (glue r) line (col + x.length)
    have hi := ih (fun p hp => h1 p (by simp [hp])) (fun i p hp hl => h2 (i + 1) p (by simpa using hp) (by simp; omega)) (fun p hp => h3 p (by
      cases r with
      | nil => cases hp
      | cons q r' => rw [List.getLast?_cons_cons]; exact hp)) l' c'
    rw [glue, e1, tk_tok e2, shape_push]
    have e4 : (c :: t).drop x.length = s ++ glue r := by rw [← e1]; exact List.drop_left
    have e5 : (c :: t).take x.length = x := by rw [← e1]; exact List.take_left
    rw [e4, e5, e3, hi]
    rfl
theorem toks_good : ∀ (f : Nat) (r : List UInt8) (line col : Nat) (l : List Tkn), toks f r line col = .ok l → ∀ t ∈ l, GoodT t.kind t.text := by
  intro f
  induction f with
  | zero => intro r line col l h t ht; unfold toks at h; injection h with h; subst h; cases ht
  | succ f ih =>
    intro r line col l h t ht
    cases r with
    | nil => unfold toks at h; injection h with h; subst h; cases ht
    | cons c s =>
      unfold toks at h
      split at h
      · exact ih _ _ _ _ h t ht
      · split at h
        · exact ih _ _ _ _ h t ht
        · split at h
          · exact ih _ _ _ _ h t ht
          · split at h
            · cases h
            · rename_i k n hf
              cases hx : toks f ((c :: s).drop n) line (col + n) with
              | err x => rw [hx] at h; cases h
              | ok l' =>
                rw [hx] at h
                injection h with h
                subst h
                rcases List.mem_cons.1 ht with e | e
                · subst e; exact ⟨_, _, hf, rfl⟩
                · exact ih _ _ _ _ hx t e
end Bn

/- Every token stands at its place: plain. -/
namespace Bn
def After (line col : Nat) (t : Tkn) : Prop := line < t.line ∨ (line = t.line ∧ col ≤ t.col)
theorem After.mono {line col col' : Nat} {t : Tkn} (h : After line col' t) (hc : col ≤ col') : After line col t := by
  rcases h with h | ⟨h, h1⟩
  · exact .inl h
  · exact .inr ⟨h, Nat.le_trans hc h1⟩
theorem toks_after : ∀ (f : Nat) (r : List UInt8) (line col : Nat) (l : List Tkn), toks f r line col = .ok l → ∀ t ∈ l, After line col t := by
  intro f
  induction f with
  | zero => intro r line col l h t ht; unfold toks at h; injection h with h; subst h; cases ht
  | succ f ih =>
    intro r line col l h t ht
    cases r with
    | nil => unfold toks at h; injection h with h; subst h; cases ht
    | cons c s =>
      unfold toks at h
      split at h
      · rcases ih _ _ _ _ h t ht with e | ⟨e, _⟩
        · exact .inl (by omega)
        · exact .inl (by omega)
      · split at h
        · exact (ih _ _ _ _ h t ht).mono (by omega)
        · split at h
          · exact (ih _ _ _ _ h t ht).mono (by omega)
          · split at h
            · cases h
            · rename_i k n hf
              cases hx : toks f ((c :: s).drop n) line (col + n) with
              | err x => rw [hx] at h; cases h
              | ok l' =>
                rw [hx] at h
                injection h with h
                subst h
                rcases List.mem_cons.1 ht with e | e
                · subst e; exact .inr ⟨rfl, Nat.le_refl _⟩
                · exact (ih _ _ _ _ hx t e).mono (by omega)
def PlI (s : List UInt8) (l : List Tkn) (i line col k left : Nat) : Prop := k ≤ l.length ∧ ∃ u rest, s.drop i = u ++ rest ∧ 10 ∉ u ∧ tk rest line (col + u.length) = .ok (l.drop k) ∧ (left = u.length ∨ left = 0)
theorem PlI.start {s : List UInt8} {l : List Tkn} (h : tokens s = .ok l) : PlI s l 0 1 1 0 0 := ⟨Nat.zero_le _, [], s, rfl, by simp, h, .inr rfl⟩
theorem PlI.fin {s : List UInt8} {l : List Tkn} {line col k left : Nat} (h : PlI s l s.length line col k left) : k = l.length := by
  obtain ⟨hk, u, rest, h1, _, h2, _⟩ := h
  rw [List.drop_length] at h1
  have h3 := List.append_eq_nil_iff.1 h1.symm
  rw [h3.2, tk_nil] at h2
  injection h2 with h2
  have := congrArg List.length h2
  rw [List.length_drop] at this
  simp at this; omega
def meets (l : List Tkn) (line col k left : Nat) : Bool := decide (left = 0) && (match l[k]? with | some t => decide (t.line = line) && decide (t.col = col) | none => false)
def nextLine (c : UInt8) (line : Nat) : Nat := if c = 10 then line + 1 else line
def nextCol (c : UInt8) (col : Nat) : Nat := if c = 10 then 1 else col + 1
theorem meets_no {l : List Tkn} {line col k left : Nat} {line' col' : Nat} (h : ∀ t ∈ l.drop k, After line' col' t) (hp : line < line' ∨ (line = line' ∧ col < col')) : meets l line col k left = false := by
  unfold meets
  cases hk : l[k]? with
  | none => simp
  | some t =>
    have hm : t ∈ l.drop k := by
      obtain ⟨h1, h2⟩ := List.getElem?_eq_some_iff.1 hk
      rw [List.drop_eq_getElem_cons h1, h2]; simp
    have := h t hm
    have h3 : ¬ (t.line = line ∧ t.col = col) := by
      rintro ⟨a, b⟩
      rcases this with e | ⟨e, e2⟩ <;> rcases hp with g | ⟨g, g2⟩ <;> omega
    simp only [Bool.and_eq_false_iff, decide_eq_false_iff_not]
    right
    by_cases ha : t.line = line
    · right; exact fun hb => h3 ⟨ha, hb⟩
    · left; exact ha
theorem PlI.inner {s : List UInt8} {l : List Tkn} {i line col k left : Nat} {c : UInt8} {t u rest : List UInt8} (hk : k ≤ l.length) (hd : s.drop i = c :: t) (h1 : s.drop i = u ++ rest) (hu : 10 ∉ u) (h2 : tk rest line (col + u.length) = .ok (l.drop k)) (h3 : left = u.length ∨ left = 0) (hne : u ≠ []) :
    meets l line col k left = false ∧ PlI s l (i + 1) (nextLine c line) (nextCol c col) k (left - 1) := by
  obtain ⟨x, u', rfl⟩ := List.exists_cons_of_ne_nil hne
  have hx : x = c ∧ t = u' ++ rest := by rw [hd] at h1; injection h1 with a b; exact ⟨a.symm, b⟩
  obtain ⟨rfl, ht⟩ := hx
  have hx10 : x ≠ 10 := fun e => hu (by rw [e]; simp)
  rw [List.length_cons] at h2 h3
  have hd1 : s.drop (i + 1) = t := by rw [← List.drop_drop, hd]; rfl
  refine ⟨meets_no (toks_after _ _ _ _ _ h2) (.inr ⟨rfl, by omega⟩), hk, u', rest, by rw [hd1, ht], fun h => hu (by simp [h]), ?_, by omega⟩
  unfold nextLine nextCol
  rw [if_neg hx10, if_neg hx10, show col + 1 + u'.length = col + (u'.length + 1) by omega]
  exact h2
theorem PlI.step {s : List UInt8} {l : List Tkn} {i line col k left : Nat} (h : PlI s l i line col k left) {c : UInt8} {t : List UInt8} (hd : s.drop i = c :: t) :
    (meets l line col k left = false ∧ PlI s l (i + 1) (nextLine c line) (nextCol c col) k (left - 1)) ∨
    (meets l line col k left = true ∧ ∃ x, l[k]? = some x ∧ 0 < x.text.length ∧ i + x.text.length ≤ s.length ∧ (s.drop i).take x.text.length = x.text ∧ PlI s l (i + 1) (nextLine c line) (nextCol c col) (k + 1) (x.text.length - 1)) := by
  obtain ⟨hk, u, rest, h1, hu, h2, h3⟩ := h
  by_cases hne : u = []
  · subst hne
    rw [List.nil_append] at h1
    rw [List.length_nil, Nat.add_zero] at h2
    have hl0 : left = 0 := by rcases h3 with e | e <;> simpa using e
    subst hl0
    have hd1 : s.drop (i + 1) = t := by rw [← List.drop_drop, hd]; rfl
    have hr : rest = c :: t := by rw [← h1, hd]
    subst hr
    by_cases h10 : c = 10
    · subst h10
      rw [tk_line] at h2
      left
      refine ⟨meets_no (toks_after _ _ _ _ _ h2) (.inl (by omega)), hk, [], t, by rw [hd1]; rfl, by simp, ?_, .inr rfl⟩
      exact h2
    · by_cases hb : isBlk c = true
      · rw [tk_blank hb] at h2
        left
        refine ⟨meets_no (toks_after _ _ _ _ _ h2) (.inr ⟨rfl, by omega⟩), hk, [], t, by rw [hd1]; rfl, by simp, ?_, .inr rfl⟩
        unfold nextLine nextCol
        rw [if_neg h10, if_neg h10]
        exact h2
      · by_cases h37 : c = 37
        · subst h37
          rw [tk_com] at h2
          left
          have hp := comN_pos (t := t)
          have hle := comN_le (37 :: t)
          have hlen : ((37 :: t).take (comN (37 :: t))).length = comN (37 :: t) := by rw [List.length_take]; omega
          refine PlI.inner hk hd (h1.trans (List.take_append_drop _ _).symm) ?_ (by rw [hlen]; exact h2) (.inr rfl) (fun e => by rw [e] at hlen; simp at hlen; omega)
          intro hm
          have : (37 :: t).take (comN (37 :: t)) = (37 :: t).takeWhile (fun c => c != 10) := by
            obtain ⟨d, e, _⟩ := tw_split (fun c => c != 10) (37 :: t)
            exact (congrArg (List.take _) e).trans List.take_left
          rw [this] at hm
          have h4 := tw_all (p := fun c => c != 10) (37 :: t)
          rw [List.all_eq_true] at h4
          exact absurd (h4 10 hm) (by decide)
        · cases hf : firstT (c :: t) with
          | err x => rw [tk_err hf h10 (by simpa using hb) h37] at h2; cases h2
          | ok kk n =>
            rw [tk_tok hf] at h2
            have hn := firstT_ok hf
            cases hx : tk ((c :: t).drop n) line (col + n) with
            | err x => rw [hx] at h2; cases h2
            | ok l' =>
              rw [hx] at h2
              injection h2 with h2
              have hkl : k < l.length := by
                rcases Nat.lt_or_ge k l.length with e | e
                · exact e
                · rw [List.drop_eq_nil_of_le e] at h2; cases h2
              rw [List.drop_eq_getElem_cons hkl] at h2
              injection h2 with h4 h5
              have hlt : ((c :: t).take n).length = n := by rw [List.length_take]; omega
              right
              have hg : l[k]? = some ⟨kk, (c :: t).take n, line, col⟩ := by rw [List.getElem?_eq_getElem hkl, h4]
              have hlen : i + n ≤ s.length := by
                have := congrArg List.length hd
                rw [List.length_drop] at this
                have h7 : (c :: t).length ≤ s.length - i := by omega
                have h8 : 0 < (c :: t).length := by simp
                omega
              refine ⟨?_, ⟨kk, (c :: t).take n, line, col⟩, hg, by dsimp only; omega, by dsimp only; omega, by dsimp only; rw [hlt, hd], ?_⟩
              · unfold meets; rw [hg]; simp
              · dsimp only
                rw [hlt]
                obtain ⟨m, rfl⟩ : ∃ m, n = m + 1 := ⟨n - 1, by omega⟩
                have hno := first_no10 hf
                rw [List.take_succ_cons] at hno
                refine ⟨by omega, t.take m, t.drop m, by rw [hd1, List.take_append_drop], fun h => hno (by simp [h]), ?_, .inl ?_⟩
                · unfold nextLine nextCol
                  rw [if_neg h10, if_neg h10]
                  have hm : (t.take m).length = m := by rw [List.length_take]; simp at hn; omega
                  rw [hm, ← h5]
                  rw [List.drop_succ_cons] at hx
                  rw [show col + 1 + m = col + (m + 1) by omega]
                  exact hx
                · rw [List.length_take]; simp at hn; omega
  · exact .inl (PlI.inner hk hd h1 hu h2 h3 hne)
end Bn

/- Walks: tokens: what a byte is. -/
namespace Go.Proofs.YtoiijifnfdgfpaaGreatDoor
open Go Go.RowKit Bn
attribute [local go_sem ↓] Go.wp_at_zero Go.wp_at_succ
def isBlk2 (c : UInt8) : Bool := c == 32 || c == 9 || c == 10 || c == 13
theorem beq_nat (c d : UInt8) : (c == d) = decide (c.toNat = d.toNat) := by
  by_cases h : c = d
  · subst h; simp
  · rw [beq_eq_false_iff_ne.2 h, decide_eq_false (fun e => h (UInt8.toNat.inj e))]
theorem isLet_nat (c : UInt8) : isLet c = ((decide (97 ≤ c.toNat) && decide (c.toNat ≤ 122)) || (decide (65 ≤ c.toNat) && decide (c.toNat ≤ 90))) := rfl
theorem isDg_nat (c : UInt8) : isDg c = (decide (48 ≤ c.toNat) && decide (c.toNat ≤ 57)) := rfl
theorem isSgn_nat (c : UInt8) : isSgn c = (decide (c.toNat = 123) || decide (c.toNat = 125) || decide (c.toNat = 59) || decide (c.toNat = 46)) := by unfold isSgn; rw [beq_nat, beq_nat, beq_nat, beq_nat]; rfl
theorem isBlk2_nat (c : UInt8) : isBlk2 c = (decide (c.toNat = 32) || decide (c.toNat = 9) || decide (c.toNat = 10) || decide (c.toNat = 13)) := by unfold isBlk2; rw [beq_nat, beq_nat, beq_nat, beq_nat]; rfl
theorem t_letter (w : World) (c : UInt8) (v : Bool) (hv : isLet c = v) : Calls Tryz.prog 112 #[.int .u8 (c.toNat : Nat)] w (RetV w (.bool v)) := by
 have hc : c.toNat < 256 := c.toNat_lt
 obtain ⟨n, hn⟩ : ∃ n, c.toNat = n := ⟨_, rfl⟩
 rw [hn] at hc ⊢
 have hd : v = ((decide (97 ≤ n) && decide (n ≤ 122)) || (decide (65 ≤ n) && decide (n ≤ 90))) := by rw [← hv, isLet_nat, hn]
 clear hv
 rcases (show (0 ≤ n ∧ n ≤ 64) ∨ (65 ≤ n ∧ n ≤ 90) ∨ (91 ≤ n ∧ n ≤ 96) ∨ (97 ≤ n ∧ n ≤ 122) ∨ (123 ≤ n ∧ n ≤ 255) by omega) with ⟨ha, hb⟩ | ⟨ha, hb⟩ | ⟨ha, hb⟩ | ⟨ha, hb⟩ | ⟨ha, hb⟩
 ·have ege97 : ((97 : Int) ≤ (n : Int)) = False := by simp; omega
  have ele122 : ((n : Int) ≤ 122) = True := by simp; omega
  have ege65 : ((65 : Int) ≤ (n : Int)) = False := by simp; omega
  have ele90 : ((n : Int) ≤ 90) = True := by simp; omega
  obtain rfl : v = false := by rw [hd]; simp; omega
  clear hd hn
  go_enter Tryz.func112, Tryz.ntmps112
  go_wp2_with fail
  go_ret
  exact retB rfl (brefl w)
 ·have ege97 : ((97 : Int) ≤ (n : Int)) = False := by simp; omega
  have ele122 : ((n : Int) ≤ 122) = True := by simp; omega
  have ege65 : ((65 : Int) ≤ (n : Int)) = True := by simp; omega
  have ele90 : ((n : Int) ≤ 90) = True := by simp; omega
  obtain rfl : v = true := by rw [hd]; simp; omega
  clear hd hn
  go_enter Tryz.func112, Tryz.ntmps112
  go_wp2_with fail
  go_ret
  exact retB rfl (brefl w)
 ·have ege97 : ((97 : Int) ≤ (n : Int)) = False := by simp; omega
  have ele122 : ((n : Int) ≤ 122) = True := by simp; omega
  have ege65 : ((65 : Int) ≤ (n : Int)) = True := by simp; omega
  have ele90 : ((n : Int) ≤ 90) = False := by simp; omega
  obtain rfl : v = false := by rw [hd]; simp; omega
  clear hd hn
  go_enter Tryz.func112, Tryz.ntmps112
  go_wp2_with fail
  go_ret
  exact retB rfl (brefl w)
 ·have ege97 : ((97 : Int) ≤ (n : Int)) = True := by simp; omega
  have ele122 : ((n : Int) ≤ 122) = True := by simp; omega
  have ege65 : ((65 : Int) ≤ (n : Int)) = True := by simp; omega
  have ele90 : ((n : Int) ≤ 90) = False := by simp; omega
  obtain rfl : v = true := by rw [hd]; simp; omega
  clear hd hn
  go_enter Tryz.func112, Tryz.ntmps112
  go_wp2_with fail
  go_ret
  exact retB rfl (brefl w)
 ·have ege97 : ((97 : Int) ≤ (n : Int)) = True := by simp; omega
  have ele122 : ((n : Int) ≤ 122) = False := by simp; omega
  have ege65 : ((65 : Int) ≤ (n : Int)) = True := by simp; omega
  have ele90 : ((n : Int) ≤ 90) = False := by simp; omega
  obtain rfl : v = false := by rw [hd]; simp; omega
  clear hd hn
  go_enter Tryz.func112, Tryz.ntmps112
  go_wp2_with fail
  go_ret
  exact retB rfl (brefl w)
theorem r_letter (w : World) (c : UInt8) (v : Bool) (hv : isLet c = v) : Calls Tryz.prog 108 #[.int .u8 (c.toNat : Nat)] w (RetV w (.bool v)) := by
 have hc : c.toNat < 256 := c.toNat_lt
 obtain ⟨n, hn⟩ : ∃ n, c.toNat = n := ⟨_, rfl⟩
 rw [hn] at hc ⊢
 have hd : v = ((decide (97 ≤ n) && decide (n ≤ 122)) || (decide (65 ≤ n) && decide (n ≤ 90))) := by rw [← hv, isLet_nat, hn]
 clear hv
 rcases (show (0 ≤ n ∧ n ≤ 64) ∨ (65 ≤ n ∧ n ≤ 90) ∨ (91 ≤ n ∧ n ≤ 96) ∨ (97 ≤ n ∧ n ≤ 122) ∨ (123 ≤ n ∧ n ≤ 255) by omega) with ⟨ha, hb⟩ | ⟨ha, hb⟩ | ⟨ha, hb⟩ | ⟨ha, hb⟩ | ⟨ha, hb⟩
 ·have ege97 : ((97 : Int) ≤ (n : Int)) = False := by simp; omega
  have ele122 : ((n : Int) ≤ 122) = True := by simp; omega
  have ege65 : ((65 : Int) ≤ (n : Int)) = False := by simp; omega
  have ele90 : ((n : Int) ≤ 90) = True := by simp; omega
  obtain rfl : v = false := by rw [hd]; simp; omega
  clear hd hn
  go_enter Tryz.func108, Tryz.ntmps108
  go_wp2_with fail
  go_ret
  exact retB rfl (brefl w)
 ·have ege97 : ((97 : Int) ≤ (n : Int)) = False := by simp; omega
  have ele122 : ((n : Int) ≤ 122) = True := by simp; omega
  have ege65 : ((65 : Int) ≤ (n : Int)) = True := by simp; omega
  have ele90 : ((n : Int) ≤ 90) = True := by simp; omega
  obtain rfl : v = true := by rw [hd]; simp; omega
  clear hd hn
  go_enter Tryz.func108, Tryz.ntmps108
  go_wp2_with fail
  go_ret
  exact retB rfl (brefl w)
 ·have ege97 : ((97 : Int) ≤ (n : Int)) = False := by simp; omega
  have ele122 : ((n : Int) ≤ 122) = True := by simp; omega
  have ege65 : ((65 : Int) ≤ (n : Int)) = True := by simp; omega
  have ele90 : ((n : Int) ≤ 90) = False := by simp; omega
  obtain rfl : v = false := by rw [hd]; simp; omega
  clear hd hn
  go_enter Tryz.func108, Tryz.ntmps108
  go_wp2_with fail
  go_ret
  exact retB rfl (brefl w)
 ·have ege97 : ((97 : Int) ≤ (n : Int)) = True := by simp; omega
  have ele122 : ((n : Int) ≤ 122) = True := by simp; omega
  have ege65 : ((65 : Int) ≤ (n : Int)) = True := by simp; omega
  have ele90 : ((n : Int) ≤ 90) = False := by simp; omega
  obtain rfl : v = true := by rw [hd]; simp; omega
  clear hd hn
  go_enter Tryz.func108, Tryz.ntmps108
  go_wp2_with fail
  go_ret
  exact retB rfl (brefl w)
 ·have ege97 : ((97 : Int) ≤ (n : Int)) = True := by simp; omega
  have ele122 : ((n : Int) ≤ 122) = False := by simp; omega
  have ege65 : ((65 : Int) ≤ (n : Int)) = True := by simp; omega
  have ele90 : ((n : Int) ≤ 90) = False := by simp; omega
  obtain rfl : v = false := by rw [hd]; simp; omega
  clear hd hn
  go_enter Tryz.func108, Tryz.ntmps108
  go_wp2_with fail
  go_ret
  exact retB rfl (brefl w)
theorem t_digit (w : World) (c : UInt8) (v : Bool) (hv : isDg c = v) : Calls Tryz.prog 190 #[.int .u8 (c.toNat : Nat)] w (RetV w (.bool v)) := by
 have hc : c.toNat < 256 := c.toNat_lt
 obtain ⟨n, hn⟩ : ∃ n, c.toNat = n := ⟨_, rfl⟩
 rw [hn] at hc ⊢
 have hd : v = (decide (48 ≤ n) && decide (n ≤ 57)) := by rw [← hv, isDg_nat, hn]
 clear hv
 rcases (show (0 ≤ n ∧ n ≤ 47) ∨ (48 ≤ n ∧ n ≤ 57) ∨ (58 ≤ n ∧ n ≤ 255) by omega) with ⟨ha, hb⟩ | ⟨ha, hb⟩ | ⟨ha, hb⟩
 ·have ege48 : ((48 : Int) ≤ (n : Int)) = False := by simp; omega
  have ele57 : ((n : Int) ≤ 57) = True := by simp; omega
  obtain rfl : v = false := by rw [hd]; simp; omega
  clear hd hn
  go_enter Tryz.func190, Tryz.ntmps190
  go_wp2_with fail
  go_ret
  exact retB rfl (brefl w)
 ·have ege48 : ((48 : Int) ≤ (n : Int)) = True := by simp; omega
  have ele57 : ((n : Int) ≤ 57) = True := by simp; omega
  obtain rfl : v = true := by rw [hd]; simp; omega
  clear hd hn
  go_enter Tryz.func190, Tryz.ntmps190
  go_wp2_with fail
  go_ret
  exact retB rfl (brefl w)
 ·have ege48 : ((48 : Int) ≤ (n : Int)) = True := by simp; omega
  have ele57 : ((n : Int) ≤ 57) = False := by simp; omega
  obtain rfl : v = false := by rw [hd]; simp; omega
  clear hd hn
  go_enter Tryz.func190, Tryz.ntmps190
  go_wp2_with fail
  go_ret
  exact retB rfl (brefl w)
theorem r_digit (w : World) (c : UInt8) (v : Bool) (hv : isDg c = v) : Calls Tryz.prog 150 #[.int .u8 (c.toNat : Nat)] w (RetV w (.bool v)) := by
 have hc : c.toNat < 256 := c.toNat_lt
 obtain ⟨n, hn⟩ : ∃ n, c.toNat = n := ⟨_, rfl⟩
 rw [hn] at hc ⊢
 have hd : v = (decide (48 ≤ n) && decide (n ≤ 57)) := by rw [← hv, isDg_nat, hn]
 clear hv
 rcases (show (0 ≤ n ∧ n ≤ 47) ∨ (48 ≤ n ∧ n ≤ 57) ∨ (58 ≤ n ∧ n ≤ 255) by omega) with ⟨ha, hb⟩ | ⟨ha, hb⟩ | ⟨ha, hb⟩
 ·have ege48 : ((48 : Int) ≤ (n : Int)) = False := by simp; omega
  have ele57 : ((n : Int) ≤ 57) = True := by simp; omega
  obtain rfl : v = false := by rw [hd]; simp; omega
  clear hd hn
  go_enter Tryz.func150, Tryz.ntmps150
  go_wp2_with fail
  go_ret
  exact retB rfl (brefl w)
 ·have ege48 : ((48 : Int) ≤ (n : Int)) = True := by simp; omega
  have ele57 : ((n : Int) ≤ 57) = True := by simp; omega
  obtain rfl : v = true := by rw [hd]; simp; omega
  clear hd hn
  go_enter Tryz.func150, Tryz.ntmps150
  go_wp2_with fail
  go_ret
  exact retB rfl (brefl w)
 ·have ege48 : ((48 : Int) ≤ (n : Int)) = True := by simp; omega
  have ele57 : ((n : Int) ≤ 57) = False := by simp; omega
  obtain rfl : v = false := by rw [hd]; simp; omega
  clear hd hn
  go_enter Tryz.func150, Tryz.ntmps150
  go_wp2_with fail
  go_ret
  exact retB rfl (brefl w)
theorem r_sign18 (w : World) (c : UInt8) (v : Bool) (hv : isSgn c = v) : Calls Tryz.prog 109 #[.int .u8 (c.toNat : Nat)] w (RetV w (.bool v)) := by
 have hc : c.toNat < 256 := c.toNat_lt
 obtain ⟨n, hn⟩ : ∃ n, c.toNat = n := ⟨_, rfl⟩
 rw [hn] at hc ⊢
 have hd : v = (decide (n = 123) || decide (n = 125) || decide (n = 59) || decide (n = 46)) := by rw [← hv, isSgn_nat, hn]
 clear hv
 rcases (show (0 ≤ n ∧ n ≤ 45) ∨ (46 ≤ n ∧ n ≤ 46) ∨ (47 ≤ n ∧ n ≤ 58) ∨ (59 ≤ n ∧ n ≤ 59) ∨ (60 ≤ n ∧ n ≤ 122) ∨ (123 ≤ n ∧ n ≤ 123) ∨ (124 ≤ n ∧ n ≤ 124) ∨ (125 ≤ n ∧ n ≤ 125) ∨ (126 ≤ n ∧ n ≤ 255) by omega) with ⟨ha, hb⟩ | ⟨ha, hb⟩ | ⟨ha, hb⟩ | ⟨ha, hb⟩ | ⟨ha, hb⟩ | ⟨ha, hb⟩ | ⟨ha, hb⟩ | ⟨ha, hb⟩ | ⟨ha, hb⟩
 ·have q123 : ((n : Int) == 123) = false := by simp; omega
  have q125 : ((n : Int) == 125) = false := by simp; omega
  have q59 : ((n : Int) == 59) = false := by simp; omega
  have q46 : ((n : Int) == 46) = false := by simp; omega
  obtain rfl : v = false := by rw [hd]; simp; omega
  clear hd hn
  go_enter Tryz.func109, Tryz.ntmps109
  go_wp2_with fail
  go_ret
  exact retB rfl (brefl w)
 ·have q123 : ((n : Int) == 123) = false := by simp; omega
  have q125 : ((n : Int) == 125) = false := by simp; omega
  have q59 : ((n : Int) == 59) = false := by simp; omega
  have q46 : ((n : Int) == 46) = true := by simp; omega
  obtain rfl : v = true := by rw [hd]; simp; omega
  clear hd hn
  go_enter Tryz.func109, Tryz.ntmps109
  go_wp2_with fail
  go_ret
  exact retB rfl (brefl w)
 ·have q123 : ((n : Int) == 123) = false := by simp; omega
  have q125 : ((n : Int) == 125) = false := by simp; omega
  have q59 : ((n : Int) == 59) = false := by simp; omega
  have q46 : ((n : Int) == 46) = false := by simp; omega
  obtain rfl : v = false := by rw [hd]; simp; omega
  clear hd hn
  go_enter Tryz.func109, Tryz.ntmps109
  go_wp2_with fail
  go_ret
  exact retB rfl (brefl w)
 ·have q123 : ((n : Int) == 123) = false := by simp; omega
  have q125 : ((n : Int) == 125) = false := by simp; omega
  have q59 : ((n : Int) == 59) = true := by simp; omega
  have q46 : ((n : Int) == 46) = false := by simp; omega
  obtain rfl : v = true := by rw [hd]; simp; omega
  clear hd hn
  go_enter Tryz.func109, Tryz.ntmps109
  go_wp2_with fail
  go_ret
  exact retB rfl (brefl w)
 ·have q123 : ((n : Int) == 123) = false := by simp; omega
  have q125 : ((n : Int) == 125) = false := by simp; omega
  have q59 : ((n : Int) == 59) = false := by simp; omega
  have q46 : ((n : Int) == 46) = false := by simp; omega
  obtain rfl : v = false := by rw [hd]; simp; omega
  clear hd hn
  go_enter Tryz.func109, Tryz.ntmps109
  go_wp2_with fail
  go_ret
  exact retB rfl (brefl w)
 ·have q123 : ((n : Int) == 123) = true := by simp; omega
  have q125 : ((n : Int) == 125) = false := by simp; omega
  have q59 : ((n : Int) == 59) = false := by simp; omega
  have q46 : ((n : Int) == 46) = false := by simp; omega
  obtain rfl : v = true := by rw [hd]; simp; omega
  clear hd hn
  go_enter Tryz.func109, Tryz.ntmps109
  go_wp2_with fail
  go_ret
  exact retB rfl (brefl w)
 ·have q123 : ((n : Int) == 123) = false := by simp; omega
  have q125 : ((n : Int) == 125) = false := by simp; omega
  have q59 : ((n : Int) == 59) = false := by simp; omega
  have q46 : ((n : Int) == 46) = false := by simp; omega
  obtain rfl : v = false := by rw [hd]; simp; omega
  clear hd hn
  go_enter Tryz.func109, Tryz.ntmps109
  go_wp2_with fail
  go_ret
  exact retB rfl (brefl w)
 ·have q123 : ((n : Int) == 123) = false := by simp; omega
  have q125 : ((n : Int) == 125) = true := by simp; omega
  have q59 : ((n : Int) == 59) = false := by simp; omega
  have q46 : ((n : Int) == 46) = false := by simp; omega
  obtain rfl : v = true := by rw [hd]; simp; omega
  clear hd hn
  go_enter Tryz.func109, Tryz.ntmps109
  go_wp2_with fail
  go_ret
  exact retB rfl (brefl w)
 ·have q123 : ((n : Int) == 123) = false := by simp; omega
  have q125 : ((n : Int) == 125) = false := by simp; omega
  have q59 : ((n : Int) == 59) = false := by simp; omega
  have q46 : ((n : Int) == 46) = false := by simp; omega
  obtain rfl : v = false := by rw [hd]; simp; omega
  clear hd hn
  go_enter Tryz.func109, Tryz.ntmps109
  go_wp2_with fail
  go_ret
  exact retB rfl (brefl w)
theorem r_blank (w : World) (c : UInt8) (v : Bool) (hv : isBlk2 c = v) : Calls Tryz.prog 62 #[.int .u8 (c.toNat : Nat)] w (RetV w (.bool v)) := by
 have hc : c.toNat < 256 := c.toNat_lt
 obtain ⟨n, hn⟩ : ∃ n, c.toNat = n := ⟨_, rfl⟩
 rw [hn] at hc ⊢
 have hd : v = (decide (n = 32) || decide (n = 9) || decide (n = 10) || decide (n = 13)) := by rw [← hv, isBlk2_nat, hn]
 clear hv
 rcases (show (0 ≤ n ∧ n ≤ 8) ∨ (9 ≤ n ∧ n ≤ 9) ∨ (10 ≤ n ∧ n ≤ 10) ∨ (11 ≤ n ∧ n ≤ 12) ∨ (13 ≤ n ∧ n ≤ 13) ∨ (14 ≤ n ∧ n ≤ 31) ∨ (32 ≤ n ∧ n ≤ 32) ∨ (33 ≤ n ∧ n ≤ 255) by omega) with ⟨ha, hb⟩ | ⟨ha, hb⟩ | ⟨ha, hb⟩ | ⟨ha, hb⟩ | ⟨ha, hb⟩ | ⟨ha, hb⟩ | ⟨ha, hb⟩ | ⟨ha, hb⟩
 ·have q32 : ((n : Int) == 32) = false := by simp; omega
  have q9 : ((n : Int) == 9) = false := by simp; omega
  have q10 : ((n : Int) == 10) = false := by simp; omega
  have q13 : ((n : Int) == 13) = false := by simp; omega
  obtain rfl : v = false := by rw [hd]; simp; omega
  clear hd hn
  go_enter Tryz.func62, Tryz.ntmps62
  go_wp2_with fail
  go_ret
  exact retB rfl (brefl w)
 ·have q32 : ((n : Int) == 32) = false := by simp; omega
  have q9 : ((n : Int) == 9) = true := by simp; omega
  have q10 : ((n : Int) == 10) = false := by simp; omega
  have q13 : ((n : Int) == 13) = false := by simp; omega
  obtain rfl : v = true := by rw [hd]; simp; omega
  clear hd hn
  go_enter Tryz.func62, Tryz.ntmps62
  go_wp2_with fail
  go_ret
  exact retB rfl (brefl w)
 ·have q32 : ((n : Int) == 32) = false := by simp; omega
  have q9 : ((n : Int) == 9) = false := by simp; omega
  have q10 : ((n : Int) == 10) = true := by simp; omega
  have q13 : ((n : Int) == 13) = false := by simp; omega
  obtain rfl : v = true := by rw [hd]; simp; omega
  clear hd hn
  go_enter Tryz.func62, Tryz.ntmps62
  go_wp2_with fail
  go_ret
  exact retB rfl (brefl w)
 ·have q32 : ((n : Int) == 32) = false := by simp; omega
  have q9 : ((n : Int) == 9) = false := by simp; omega
  have q10 : ((n : Int) == 10) = false := by simp; omega
  have q13 : ((n : Int) == 13) = false := by simp; omega
  obtain rfl : v = false := by rw [hd]; simp; omega
  clear hd hn
  go_enter Tryz.func62, Tryz.ntmps62
  go_wp2_with fail
  go_ret
  exact retB rfl (brefl w)
 ·have q32 : ((n : Int) == 32) = false := by simp; omega
  have q9 : ((n : Int) == 9) = false := by simp; omega
  have q10 : ((n : Int) == 10) = false := by simp; omega
  have q13 : ((n : Int) == 13) = true := by simp; omega
  obtain rfl : v = true := by rw [hd]; simp; omega
  clear hd hn
  go_enter Tryz.func62, Tryz.ntmps62
  go_wp2_with fail
  go_ret
  exact retB rfl (brefl w)
 ·have q32 : ((n : Int) == 32) = false := by simp; omega
  have q9 : ((n : Int) == 9) = false := by simp; omega
  have q10 : ((n : Int) == 10) = false := by simp; omega
  have q13 : ((n : Int) == 13) = false := by simp; omega
  obtain rfl : v = false := by rw [hd]; simp; omega
  clear hd hn
  go_enter Tryz.func62, Tryz.ntmps62
  go_wp2_with fail
  go_ret
  exact retB rfl (brefl w)
 ·have q32 : ((n : Int) == 32) = true := by simp; omega
  have q9 : ((n : Int) == 9) = false := by simp; omega
  have q10 : ((n : Int) == 10) = false := by simp; omega
  have q13 : ((n : Int) == 13) = false := by simp; omega
  obtain rfl : v = true := by rw [hd]; simp; omega
  clear hd hn
  go_enter Tryz.func62, Tryz.ntmps62
  go_wp2_with fail
  go_ret
  exact retB rfl (brefl w)
 ·have q32 : ((n : Int) == 32) = false := by simp; omega
  have q9 : ((n : Int) == 9) = false := by simp; omega
  have q10 : ((n : Int) == 10) = false := by simp; omega
  have q13 : ((n : Int) == 13) = false := by simp; omega
  obtain rfl : v = false := by rw [hd]; simp; omega
  clear hd hn
  go_enter Tryz.func62, Tryz.ntmps62
  go_wp2_with fail
  go_ret
  exact retB rfl (brefl w)
end Go.Proofs.YtoiijifnfdgfpaaGreatDoor

/- Walks: tokens: words, digits. -/
namespace Go.Proofs.YtoiijifnfdgfpaaGreatDoor
open Go Go.RowKit Bn
attribute [local go_sem ↓] Go.wp_at_zero Go.wp_at_succ
def atB (s : List UInt8) (i : Nat) : UInt8 := s.getD i 0
theorem atB_lt {s : List UInt8} {i : Nat} (h : i < s.length) : atB s i = s[i] := by unfold atB; rw [List.getD_eq_getElem?_getD, List.getElem?_eq_getElem h]; rfl
theorem atB_ge {s : List UInt8} {i : Nat} (h : s.length ≤ i) : atB s i = 0 := by unfold atB; rw [List.getD_eq_getElem?_getD, List.getElem?_eq_none h]; rfl
theorem drop_at {s : List UInt8} {i : Nat} (h : i < s.length) : s.drop i = atB s i :: s.drop (i + 1) := by rw [atB_lt h]; exact List.drop_eq_getElem_cons h
theorem tw_step {p : UInt8 → Bool} {s : List UInt8} {i : Nat} (hp : p 0 = false) (h : p (atB s i) = true) : i < s.length ∧ ((s.drop i).takeWhile p).length = 1 + ((s.drop (i + 1)).takeWhile p).length := by
  have hl : i < s.length := by
    rcases Nat.lt_or_ge i s.length with x | x
    · exact x
    · rw [atB_ge x, hp] at h; cases h
  refine ⟨hl, ?_⟩
  rw [drop_at hl, List.takeWhile_cons, if_pos h, List.length_cons]; omega
theorem tw_stop {p : UInt8 → Bool} {s : List UInt8} {i : Nat} (h : p (atB s i) = false) : ((s.drop i).takeWhile p).length = 0 := by
  rcases Nat.lt_or_ge i s.length with x | x
  · rw [drop_at x, List.takeWhile_cons, if_neg (by rw [h]; decide)]; rfl
  · rw [List.drop_eq_nil_of_le x]; rfl
theorem wordN_at {s : List UInt8} {i : Nat} (h : isLet (atB s i) = true) : i < s.length ∧ wordN (s.drop i) = 1 + ((s.drop (i + 1)).takeWhile isPart).length := by
  have hl : i < s.length := by
    rcases Nat.lt_or_ge i s.length with x | x
    · exact x
    · rw [atB_ge x] at h; cases h
  refine ⟨hl, ?_⟩
  rw [drop_at hl, wordN, if_pos h]
theorem wordN_no {s : List UInt8} {i : Nat} (h : isLet (atB s i) = false) : wordN (s.drop i) = 0 := by
  rcases Nat.lt_or_ge i s.length with x | x
  · rw [drop_at x, wordN, if_neg (by rw [h]; decide)]
  · rw [List.drop_eq_nil_of_le x]; rfl
theorem isPart_1 {c : UInt8} (h : isLet c = true) : isPart c = true := by unfold isPart; rw [h]; rfl
theorem isPart_2 {c : UInt8} (h : isDg c = true) : isPart c = true := by unfold isPart; rw [h, Bool.or_true]; rfl
theorem isPart_3 {c : UInt8} (h : (c == 95) = true) : isPart c = true := by unfold isPart; rw [h, Bool.or_true]
theorem isPart_0 {c : UInt8} (h1 : isLet c = false) (h2 : isDg c = false) (h3 : (c == 95) = false) : isPart c = false := by unfold isPart; rw [h1, h2, h3]; rfl
theorem byte_eq (c d : UInt8) : (((c.toNat : Nat) : Int) == ((d.toNat : Nat) : Int)) = (c == d) := by
  by_cases h : c = d
  · subst h; simp
  · rw [beq_eq_false_iff_ne.2 h, beq_eq_false_iff_ne]
    intro e; exact h (UInt8.toNat.inj (by omega))
theorem t_part (w : World) (c : UInt8) (v : Bool) (hv : isPart c = v) : Calls Tryz.prog 148 #[.int .u8 (c.toNat : Nat)] w (RetV w (.bool v)) := by
 cases hl : isLet c
 ·cases hd : isDg c
  ·cases hu : (c == 95)
   ·obtain rfl : v = false := by rw [← hv]; exact isPart_0 hl hd hu
    have h95 : (((c.toNat : Nat) : Int) == 95) = false := (byte_eq c 95).trans hu
    clear hv hu
    go_enter Tryz.func148, Tryz.ntmps148
    go_wp2_with fail
    (with_reducible refine (t_letter _ c false hl).mono ?_); rintro e w1 ⟨rfl, q1⟩
    have bw1 := (brefl w).trans (q1.mono (brefl w).size)
    have lw1 := q1.size
    clear q1
    go_wp2_with fail
    (with_reducible refine (t_digit _ c false hd).mono ?_); rintro e w2 ⟨rfl, q2⟩
    have bw2 := bw1.trans (q2.mono bw1.size)
    have lw2 := q2.size
    clear q2 bw1
    go_wp2_with fail
    go_ret
    exact retB rfl bw2
   ·obtain rfl : v = true := by rw [← hv]; exact isPart_3 hu
    have h95 : (((c.toNat : Nat) : Int) == 95) = true := (byte_eq c 95).trans hu
    clear hv hu
    go_enter Tryz.func148, Tryz.ntmps148
    go_wp2_with fail
    (with_reducible refine (t_letter _ c false hl).mono ?_); rintro e w1 ⟨rfl, q1⟩
    have bw1 := (brefl w).trans (q1.mono (brefl w).size)
    have lw1 := q1.size
    clear q1
    go_wp2_with fail
    (with_reducible refine (t_digit _ c false hd).mono ?_); rintro e w2 ⟨rfl, q2⟩
    have bw2 := bw1.trans (q2.mono bw1.size)
    have lw2 := q2.size
    clear q2 bw1
    go_wp2_with fail
    go_ret
    exact retB rfl bw2
  ·obtain rfl : v = true := by rw [← hv]; exact isPart_2 hd
   clear hv
   go_enter Tryz.func148, Tryz.ntmps148
   go_wp2_with fail
   (with_reducible refine (t_letter _ c false hl).mono ?_); rintro e w1 ⟨rfl, q1⟩
   have bw1 := (brefl w).trans (q1.mono (brefl w).size)
   have lw1 := q1.size
   clear q1
   go_wp2_with fail
   (with_reducible refine (t_digit _ c true hd).mono ?_); rintro e w2 ⟨rfl, q2⟩
   have bw2 := bw1.trans (q2.mono bw1.size)
   have lw2 := q2.size
   clear q2 bw1
   go_wp2_with fail
   go_ret
   exact retB rfl bw2
 ·obtain rfl : v = true := by rw [← hv]; exact isPart_1 hl
  clear hv
  go_enter Tryz.func148, Tryz.ntmps148
  go_wp2_with fail
  (with_reducible refine (t_letter _ c true hl).mono ?_); rintro e w1 ⟨rfl, q1⟩
  have bw1 := (brefl w).trans (q1.mono (brefl w).size)
  have lw1 := q1.size
  clear q1
  go_wp2_with fail
  go_ret
  exact retB rfl bw1
theorem r_at (w : World) (s : List UInt8) (i : Nat) (d : UInt8) (hd : atB s i = d) : Calls Tryz.prog 107 #[strV s, .int .i64 (i : Nat)] w (RetV w (.int .u8 (d.toNat : Nat))) := by
  have hszs := size_v s
  rcases Nat.lt_or_ge i s.length with hl | hl
  · have hget : ∀ h, (⟨s.toArray⟩ : ByteArray)[i]'h = d := fun h => by rw [← hd]; exact (atB_lt hl).symm
    have hlts : i < s.length := hl
    have hi0 : (0 : Int) ≤ ((i : Nat) : Int) := by omega
    have e1 : ((i : Int) < (s.length : Int)) = True := by simp; omega
    clear hd
    go_enter Tryz.func107, Tryz.ntmps107
    go_wp2_with fail
    go_ret
    exact ⟨rfl, (brefl w)⟩
  · obtain rfl : d = 0 := by rw [← hd]; exact atB_ge hl
    have e1 : ((i : Int) < (s.length : Int)) = False := by simp; omega
    clear hd
    go_enter Tryz.func107, Tryz.ntmps107
    go_wp2_with fail
    go_ret
    exact ⟨rfl, (brefl w)⟩
theorem r_wordEnd (w : World) (s : List UInt8) (i : Nat) (hi : i ≤ s.length) (hs : s.length < 4611686018427387904) (v : Nat) (hv : i + wordN (s.drop i) = v) : Calls Tryz.prog 105 #[strV s, .int .i64 (i : Nat)] w (RetV w (.int .i64 (v : Nat))) := by
 obtain ⟨d, hd⟩ : ∃ d, atB s i = d := ⟨_, rfl⟩
 cases hl : isLet d
 ·obtain rfl : i = v := by rw [← hv, wordN_no (by rw [hd]; exact hl)]; rfl
  clear hv
  go_enter Tryz.func105, Tryz.ntmps105
  go_wp2_with fail
  (with_reducible refine (r_at _ (s) (i) d hd).mono ?_); rintro e w1 ⟨rfl, q1⟩
  have bw1 := (brefl w).trans (q1.mono (brefl w).size)
  have lw1 := q1.size
  clear q1
  go_wp2_with fail
  (with_reducible refine (r_letter _ d false hl).mono ?_); rintro e w2 ⟨rfl, q2⟩
  have bw2 := bw1.trans (q2.mono bw1.size)
  have lw2 := q2.size
  clear q2 bw1
  go_wp2_with fail
  go_ret
  exact ⟨rfl, bw2⟩
 ·have hv : i + ((s.drop i).takeWhile isPart).length = v := by rw [← hv, (wordN_at (by rw [hd]; exact hl)).2, (tw_step (p := isPart) rfl (by rw [hd]; exact isPart_1 hl)).2]
  have HV := Lib.hid hv
  clear hv
  go_enter Tryz.func105, Tryz.ntmps105
  go_wp2_with fail
  (with_reducible refine (r_at _ (s) (i) d hd).mono ?_); rintro e w1 ⟨rfl, q1⟩
  have bw1 := (brefl w).trans (q1.mono (brefl w).size)
  have lw1 := q1.size
  clear q1
  go_wp2_with fail
  (with_reducible refine (r_letter _ d true hl).mono ?_); rintro e w2 ⟨rfl, q2⟩
  have bw2 := bw1.trans (q2.mono bw1.size)
  have lw2 := q2.size
  clear q2 bw1
  go_wp2_with fail
  clear hd hl
  go_loopw [1] (fun iv wr => ∃ (j : Nat), iv = .int .i64 (j : Nat) ∧ j ≤ s.length ∧ Hid (j + ((s.drop j).takeWhile isPart).length = v) ∧ Kp w2 wr ∧ Below w.heap.size w wr ∧ w2.heap.size ≤ wr.heap.size) (fun iv _ => s.length - (intOf iv).toNat)
  case atStart => exact ⟨i, rfl, hi, HV, Kp.refl _, bw2, Nat.le_refl _⟩
  case round =>
   obtain ⟨j, rfl, hj, hw, hkp, hbw, hlw⟩ := hrel
   obtain ⟨d, hd⟩ : ∃ d, atB s j = d := ⟨_, rfl⟩
   cases hl : isLet d
   ·cases hg : isDg d
    ·cases hu : (d == 95)
     ·have hjv : j = v := by rw [← hw.out, tw_stop (p := isPart) (by rw [hd]; exact isPart_0 hl hg hu)]; rfl
      subst hjv
      have h95 : (((d.toNat : Nat) : Int) == 95) = false := (byte_eq d 95).trans hu
      go_wp2_with fail
      (with_reducible refine (r_at _ (s) (j) d hd).mono ?_); rintro e w3 ⟨rfl, q3⟩
      replace hkp := hkp.below q3
      have bw3 := hbw.trans (q3.mono hbw.size)
      have lw3 := q3.size
      clear q3
      go_wp2_with fail
      (with_reducible refine (r_letter _ d false hl).mono ?_); rintro e w4 ⟨rfl, q4⟩
      replace hkp := hkp.below q4
      have bw4 := bw3.trans (q4.mono bw3.size)
      have lw4 := q4.size
      clear q4 bw3
      go_wp2_with fail
      (with_reducible refine (r_at _ (s) (j) d hd).mono ?_); rintro e w5 ⟨rfl, q5⟩
      replace hkp := hkp.below q5
      have bw5 := bw4.trans (q5.mono bw4.size)
      have lw5 := q5.size
      clear q5 bw4
      go_wp2_with fail
      (with_reducible refine (r_digit _ d false hg).mono ?_); rintro e w6 ⟨rfl, q6⟩
      replace hkp := hkp.below q6
      have bw6 := bw5.trans (q6.mono bw5.size)
      have lw6 := q6.size
      clear q6 bw5
      go_wp2_with fail
      (with_reducible refine (r_at _ (s) (j) d hd).mono ?_); rintro e w7 ⟨rfl, q7⟩
      replace hkp := hkp.below q7
      have bw7 := bw6.trans (q7.mono bw6.size)
      have lw7 := q7.size
      clear q7 bw6
      go_wp2_with fail
      go_ret
      exact ⟨rfl, bw7⟩
     ·obtain ⟨hlt, hst⟩ := tw_step (p := isPart) (s := s) (i := j) rfl (by rw [hd]; exact isPart_3 hu)
      have hw2 : Hid (j + 1 + ((s.drop (j + 1)).takeWhile isPart).length = v) := Lib.hid (by rw [← hw.out, hst]; omega)
      clear hst
      have h95 : (((d.toNat : Nat) : Int) == 95) = true := (byte_eq d 95).trans hu
      go_wp2_with fail
      (with_reducible refine (r_at _ (s) (j) d hd).mono ?_); rintro e w3 ⟨rfl, q3⟩
      replace hkp := hkp.below q3
      have bw3 := hbw.trans (q3.mono hbw.size)
      have lw3 := q3.size
      clear q3
      go_wp2_with fail
      (with_reducible refine (r_letter _ d false hl).mono ?_); rintro e w4 ⟨rfl, q4⟩
      replace hkp := hkp.below q4
      have bw4 := bw3.trans (q4.mono bw3.size)
      have lw4 := q4.size
      clear q4 bw3
      go_wp2_with fail
      (with_reducible refine (r_at _ (s) (j) d hd).mono ?_); rintro e w5 ⟨rfl, q5⟩
      replace hkp := hkp.below q5
      have bw5 := bw4.trans (q5.mono bw4.size)
      have lw5 := q5.size
      clear q5 bw4
      go_wp2_with fail
      (with_reducible refine (r_digit _ d false hg).mono ?_); rintro e w6 ⟨rfl, q6⟩
      replace hkp := hkp.below q6
      have bw6 := bw5.trans (q6.mono bw5.size)
      have lw6 := q6.size
      clear q6 bw5
      go_wp2_with fail
      (with_reducible refine (r_at _ (s) (j) d hd).mono ?_); rintro e w7 ⟨rfl, q7⟩
      replace hkp := hkp.below q7
      have bw7 := bw6.trans (q7.mono bw6.size)
      have lw7 := q7.size
      clear q7 bw6
      go_wp2_with fail
      go_roundw
      case rel => exact ⟨j + 1, by go_num, by omega, hw2, hkp, bw7, by omega⟩
      case measure => simp [intOf]; omega
    ·obtain ⟨hlt, hst⟩ := tw_step (p := isPart) (s := s) (i := j) rfl (by rw [hd]; exact isPart_2 hg)
     have hw2 : Hid (j + 1 + ((s.drop (j + 1)).takeWhile isPart).length = v) := Lib.hid (by rw [← hw.out, hst]; omega)
     clear hst
     go_wp2_with fail
     (with_reducible refine (r_at _ (s) (j) d hd).mono ?_); rintro e w3 ⟨rfl, q3⟩
     replace hkp := hkp.below q3
     have bw3 := hbw.trans (q3.mono hbw.size)
     have lw3 := q3.size
     clear q3
     go_wp2_with fail
     (with_reducible refine (r_letter _ d false hl).mono ?_); rintro e w4 ⟨rfl, q4⟩
     replace hkp := hkp.below q4
     have bw4 := bw3.trans (q4.mono bw3.size)
     have lw4 := q4.size
     clear q4 bw3
     go_wp2_with fail
     (with_reducible refine (r_at _ (s) (j) d hd).mono ?_); rintro e w5 ⟨rfl, q5⟩
     replace hkp := hkp.below q5
     have bw5 := bw4.trans (q5.mono bw4.size)
     have lw5 := q5.size
     clear q5 bw4
     go_wp2_with fail
     (with_reducible refine (r_digit _ d true hg).mono ?_); rintro e w6 ⟨rfl, q6⟩
     replace hkp := hkp.below q6
     have bw6 := bw5.trans (q6.mono bw5.size)
     have lw6 := q6.size
     clear q6 bw5
     go_wp2_with fail
     go_roundw
     case rel => exact ⟨j + 1, by go_num, by omega, hw2, hkp, bw6, by omega⟩
     case measure => simp [intOf]; omega
   ·obtain ⟨hlt, hst⟩ := tw_step (p := isPart) (s := s) (i := j) rfl (by rw [hd]; exact isPart_1 hl)
    have hw2 : Hid (j + 1 + ((s.drop (j + 1)).takeWhile isPart).length = v) := Lib.hid (by rw [← hw.out, hst]; omega)
    clear hst
    go_wp2_with fail
    (with_reducible refine (r_at _ (s) (j) d hd).mono ?_); rintro e w3 ⟨rfl, q3⟩
    replace hkp := hkp.below q3
    have bw3 := hbw.trans (q3.mono hbw.size)
    have lw3 := q3.size
    clear q3
    go_wp2_with fail
    (with_reducible refine (r_letter _ d true hl).mono ?_); rintro e w4 ⟨rfl, q4⟩
    replace hkp := hkp.below q4
    have bw4 := bw3.trans (q4.mono bw3.size)
    have lw4 := q4.size
    clear q4 bw3
    go_wp2_with fail
    go_roundw
    case rel => exact ⟨j + 1, by go_num, by omega, hw2, hkp, bw4, by omega⟩
    case measure => simp [intOf]; omega
theorem r_digitsEnd (w : World) (s : List UInt8) (i : Nat) (hi : i ≤ s.length) (hs : s.length < 4611686018427387904) (v : Nat) (hv : i + digN (s.drop i) = v) : Calls Tryz.prog 151 #[strV s, .int .i64 (i : Nat)] w (RetV w (.int .i64 (v : Nat))) := by
 have HV := Lib.hid hv
 clear hv
 go_enter Tryz.func151, Tryz.ntmps151
 go_wp2_with fail
 go_loopw [1] (fun iv wr => ∃ (j : Nat), iv = .int .i64 (j : Nat) ∧ j ≤ s.length ∧ Hid (j + ((s.drop j).takeWhile isDg).length = v) ∧ Kp w wr ∧ Below w.heap.size w wr ∧ w.heap.size ≤ wr.heap.size) (fun iv _ => s.length - (intOf iv).toNat)
 case atStart => exact ⟨i, rfl, hi, HV, Kp.refl _, (brefl w), Nat.le_refl _⟩
 case round =>
  obtain ⟨j, rfl, hj, hw, hkp, hbw, hlw⟩ := hrel
  obtain ⟨d, hd⟩ : ∃ d, atB s j = d := ⟨_, rfl⟩
  cases hg : isDg d
  ·have hjv : j = v := by rw [← hw.out, tw_stop (p := isDg) (by rw [hd]; exact hg)]; rfl
   subst hjv
   go_wp2_with fail
   (with_reducible refine (r_at _ (s) (j) d hd).mono ?_); rintro e w1 ⟨rfl, q1⟩
   replace hkp := hkp.below q1
   have bw1 := hbw.trans (q1.mono hbw.size)
   have lw1 := q1.size
   clear q1
   go_wp2_with fail
   (with_reducible refine (r_digit _ d false hg).mono ?_); rintro e w2 ⟨rfl, q2⟩
   replace hkp := hkp.below q2
   have bw2 := bw1.trans (q2.mono bw1.size)
   have lw2 := q2.size
   clear q2 bw1
   go_wp2_with fail
   go_ret
   exact ⟨rfl, bw2⟩
  ·obtain ⟨hlt, hst⟩ := tw_step (p := isDg) (s := s) (i := j) rfl (by rw [hd]; exact hg)
   have hw2 : Hid (j + 1 + ((s.drop (j + 1)).takeWhile isDg).length = v) := Lib.hid (by rw [← hw.out, hst]; omega)
   clear hst
   go_wp2_with fail
   (with_reducible refine (r_at _ (s) (j) d hd).mono ?_); rintro e w1 ⟨rfl, q1⟩
   replace hkp := hkp.below q1
   have bw1 := hbw.trans (q1.mono hbw.size)
   have lw1 := q1.size
   clear q1
   go_wp2_with fail
   (with_reducible refine (r_digit _ d true hg).mono ?_); rintro e w2 ⟨rfl, q2⟩
   replace hkp := hkp.below q2
   have bw2 := bw1.trans (q2.mono bw1.size)
   have lw2 := q2.size
   clear q2 bw1
   go_wp2_with fail
   go_roundw
   case rel => exact ⟨j + 1, by go_num, by omega, hw2, hkp, bw2, by omega⟩
   case measure => simp [intOf]; omega
theorem t_digits (w : World) (s : List UInt8) (i : Nat) (hi : i ≤ s.length) (hs : s.length < 4611686018427387904) (v : Nat) (hv : digN (s.drop i) = v) : Calls Tryz.prog 153 #[strV s, .int .i64 (i : Nat)] w (RetV w (.int .i64 (v : Nat))) := by
 have HV : Hid (0 + ((s.drop (i + 0)).takeWhile isDg).length = v) := Lib.hid (by rw [← hv, Nat.zero_add]; rfl)
 have hszs := size_v s
 clear hv
 go_enter Tryz.func153, Tryz.ntmps153
 go_wp2_with fail
 go_loopw [5] (fun iv wr => ∃ (j : Nat), iv = .int .i64 (j : Nat) ∧ i + j ≤ s.length ∧ Hid (j + ((s.drop (i + j)).takeWhile isDg).length = v) ∧ Kp w wr ∧ Below w.heap.size w wr ∧ w.heap.size ≤ wr.heap.size) (fun iv _ => s.length - (intOf iv).toNat)
 case atStart => exact ⟨0, rfl, hi, HV, Kp.refl _, (brefl w), Nat.le_refl _⟩
 case round =>
  obtain ⟨j, rfl, hj, hw, hkp, hbw, hlw⟩ := hrel
  have hw1 : IntKind.i64.wrap ((i : Int) + (j : Int)) = (i : Int) + (j : Int) := IntWalk.i64_in _ ⟨by omega, by omega⟩
  rcases Nat.lt_or_ge (i + j) s.length with hl | hl
  ·obtain ⟨d, hd⟩ : ∃ d, atB s (i + j) = d := ⟨_, rfl⟩
   have hi0 : (0 : Int) ≤ (i : Int) + (j : Int) := by omega
   have hi1 : (i : Int) + (j : Int) < (s.length : Int) := by omega
   have et : ((i : Int) + (j : Int)).toNat = i + j := by omega
   have hget : ∀ h, (⟨s.toArray⟩ : ByteArray)[i + j]'h = d := fun h => by rw [← hd]; exact (atB_lt hl).symm
   cases hg : isDg d
   ·have hjv : j = v := by rw [← hw.out, tw_stop (p := isDg) (by rw [hd]; exact hg)]; rfl
    subst hjv
    clear hd
    go_wp2_with fail
    (with_reducible refine (t_digit _ d false hg).mono ?_); rintro e w1 ⟨rfl, q1⟩
    replace hkp := hkp.below q1
    have bw1 := hbw.trans (q1.mono hbw.size)
    have lw1 := q1.size
    clear q1
    go_wp2_with fail
    go_ret
    exact ⟨rfl, bw1⟩
   ·obtain ⟨_, hst⟩ := tw_step (p := isDg) (s := s) (i := i + j) rfl (by rw [hd]; exact hg)
    have hw2 : Hid (j + 1 + ((s.drop (i + (j + 1))).takeWhile isDg).length = v) := Lib.hid (by rw [← hw.out, hst, Nat.add_assoc i j 1]; omega)
    clear hst hd
    go_wp2_with fail
    (with_reducible refine (t_digit _ d true hg).mono ?_); rintro e w1 ⟨rfl, q1⟩
    replace hkp := hkp.below q1
    have bw1 := hbw.trans (q1.mono hbw.size)
    have lw1 := q1.size
    clear q1
    go_wp2_with fail
    go_roundw
    case rel => exact ⟨j + 1, by go_num, by omega, hw2, hkp, bw1, by omega⟩
    case measure => simp [intOf]; omega
  ·have hjv : j = v := by rw [← hw.out, tw_stop (p := isDg) (by rw [atB_ge hl]; rfl)]; rfl
   subst hjv
   have hi1 : ((i : Int) + (j : Int) < (s.length : Int)) = False := by simp; omega
   go_wp2_with fail
   go_ret
   exact ⟨rfl, hbw⟩
theorem t_word (w : World) (s : List UInt8) (hs : s.length < 4611686018427387904) (v : Nat) (hv : wordN s = v) : Calls Tryz.prog 102 #[strV s] w (RetV w (.int .i64 (v : Nat))) := by
 have hszs := size_v s
 rcases Nat.eq_zero_or_pos s.length with h0 | h0
 ·obtain rfl : s = [] := List.eq_nil_of_length_eq_zero h0
  obtain rfl : 0 = v := hv
  clear hs
  go_enter Tryz.func102, Tryz.ntmps102
  go_wp2_with fail
  go_ret
  exact ⟨rfl, (brefl w)⟩
 ·obtain ⟨y, ys, hyy⟩ : ∃ y ys, s = y :: ys := List.exists_cons_of_length_pos h0
  have hBe : ((⟨s.toArray⟩ : ByteArray) == ⟨#[]⟩) = false := by rw [hyy]; rfl
  have hBl : (s == []) = false := by rw [hyy]; rfl
  have hBn : (s = []) = False := by rw [hyy]; simp
  clear hyy
  obtain ⟨d, hd⟩ : ∃ d, atB s 0 = d := ⟨_, rfl⟩
  have hget : ∀ h, (⟨s.toArray⟩ : ByteArray)[0]'h = d := fun h => by rw [← hd]; exact (atB_lt h0).symm
  have hi1 : (0 : Int) < (s.length : Int) := by omega
  cases hl : isLet d
  ·obtain rfl : 0 = v := by rw [← hv]; exact (wordN_no (s := s) (i := 0) (by rw [hd]; exact hl)).symm
   clear hd hv
   go_enter Tryz.func102, Tryz.ntmps102
   go_wp2_with fail
   (with_reducible refine (t_letter _ d false hl).mono ?_); rintro e w1 ⟨rfl, q1⟩
   have bw1 := (brefl w).trans (q1.mono (brefl w).size)
   have lw1 := q1.size
   clear q1
   go_wp2_with fail
   go_ret
   exact ⟨rfl, bw1⟩
  ·have HV : Hid (1 + ((s.drop 1).takeWhile isPart).length = v) := Lib.hid (by rw [← hv]; exact ((wordN_at (s := s) (i := 0) (by rw [hd]; exact hl)).2).symm)
   clear hv hd
   go_enter Tryz.func102, Tryz.ntmps102
   go_wp2_with fail
   (with_reducible refine (t_letter _ d true hl).mono ?_); rintro e w1 ⟨rfl, q1⟩
   have bw1 := (brefl w).trans (q1.mono (brefl w).size)
   have lw1 := q1.size
   clear q1
   go_wp2_with fail
   clear hget hl hi1 hBe hBl hBn
   go_loopw [3] (fun iv wr => ∃ (j : Nat), iv = .int .i64 (j : Nat) ∧ j ≤ s.length ∧ Hid (j + ((s.drop j).takeWhile isPart).length = v) ∧ Kp w1 wr ∧ Below w.heap.size w wr ∧ w1.heap.size ≤ wr.heap.size) (fun iv _ => s.length - (intOf iv).toNat)
   case atStart => exact ⟨1, rfl, h0, HV, Kp.refl _, bw1, Nat.le_refl _⟩
   case round =>
    obtain ⟨j, rfl, hj, hw, hkp, hbw, hlw⟩ := hrel
    rcases Nat.lt_or_ge j s.length with hl | hl
    ·obtain ⟨d, hd⟩ : ∃ d, atB s j = d := ⟨_, rfl⟩
     have hget : ∀ h, (⟨s.toArray⟩ : ByteArray)[j]'h = d := fun h => by rw [← hd]; exact (atB_lt hl).symm
     have hlt : j < s.length := hl
     cases hg : isPart d
     ·have hjv : j = v := by rw [← hw.out, tw_stop (p := isPart) (by rw [hd]; exact hg)]; rfl
      subst hjv
      clear hd
      go_wp2_with fail
      (with_reducible refine (t_part _ d false hg).mono ?_); rintro e w2 ⟨rfl, q2⟩
      replace hkp := hkp.below q2
      have bw2 := hbw.trans (q2.mono hbw.size)
      have lw2 := q2.size
      clear q2
      go_wp2_with fail
      go_ret
      exact ⟨rfl, bw2⟩
     ·obtain ⟨_, hst⟩ := tw_step (p := isPart) (s := s) (i := j) rfl (by rw [hd]; exact hg)
      have hw2 : Hid (j + 1 + ((s.drop (j + 1)).takeWhile isPart).length = v) := Lib.hid (by rw [← hw.out, hst]; omega)
      clear hst hd
      go_wp2_with fail
      (with_reducible refine (t_part _ d true hg).mono ?_); rintro e w2 ⟨rfl, q2⟩
      replace hkp := hkp.below q2
      have bw2 := hbw.trans (q2.mono hbw.size)
      have lw2 := q2.size
      clear q2
      go_wp2_with fail
      go_roundw
      case rel => exact ⟨j + 1, by go_num, by omega, hw2, hkp, bw2, by omega⟩
      case measure => simp [intOf]; omega
    ·have hjv : j = v := by rw [← hw.out, tw_stop (p := isPart) (by rw [atB_ge hl]; rfl)]; rfl
     subst hjv
     have hi1 : ((j : Int) < (s.length : Int)) = False := by simp; omega
     go_wp2_with fail
     go_ret
     exact ⟨rfl, hbw⟩
theorem r_at_x (w : World) (s : List UInt8) (x : Int) (i : Nat) (hx : x = ((i : Nat) : Int)) (d : UInt8) (hd : atB s i = d) : Calls Tryz.prog 107 #[strV s, .int .i64 x] w (RetV w (.int .u8 (d.toNat : Nat))) := by
  subst hx
  exact r_at w s i d hd
theorem r_digitsEnd_x (w : World) (s : List UInt8) (x : Int) (i : Nat) (hx : x = ((i : Nat) : Int)) (hi : i ≤ s.length) (hs : s.length < 4611686018427387904) (y : Int) (hy : ((i + digN (s.drop i) : Nat) : Int) = y) : Calls Tryz.prog 151 #[strV s, .int .i64 x] w (RetV w (.int .i64 y)) := by
  subst hx hy
  exact r_digitsEnd w s i hi hs _ rfl
theorem r_wordEnd_x (w : World) (s : List UInt8) (x : Int) (i : Nat) (hx : x = ((i : Nat) : Int)) (hi : i ≤ s.length) (hs : s.length < 4611686018427387904) (y : Int) (hy : ((i + wordN (s.drop i) : Nat) : Int) = y) : Calls Tryz.prog 105 #[strV s, .int .i64 x] w (RetV w (.int .i64 y)) := by
  subst hx hy
  exact r_wordEnd w s i hi hs _ rfl
theorem t_digits_x (w : World) (s : List UInt8) (x : Int) (i : Nat) (hx : x = ((i : Nat) : Int)) (hi : i ≤ s.length) (hs : s.length < 4611686018427387904) (y : Int) (hy : ((digN (s.drop i) : Nat) : Int) = y) : Calls Tryz.prog 153 #[strV s, .int .i64 x] w (RetV w (.int .i64 y)) := by
  subst hx hy
  exact t_digits w s i hi hs _ rfl
end Go.Proofs.YtoiijifnfdgfpaaGreatDoor

/- Walks: the reference's division. -/
namespace Go.Proofs.YtoiijifnfdgfpaaGreatDoor
open Go Go.RowKit Bn
attribute [local go_sem ↓] Go.wp_at_zero Go.wp_at_succ

theorem words_cells (l : List Nat) : (cellsOf l).toList = words l := by simp [cellsOf, words]
theorem OwS.made (w : World) {B : Nat} (L : List Nat) (n : Nat) (hB : B ≤ w.heap.size) (hn : n ≤ 4398046511104) (hL : L.length = n) (hW : Wds L) : OwS (w.alloc (.cells (cellsOf L) 82)) B w.heap.size n n L := by
  refine ⟨?_, hW⟩
  rw [← words_cells]
  exact World.ownsRow_lit w (cellsOf L) n hB (by unfold maxLen; omega) (by simp [cellsOf, hL])
theorem OwS.far {w : World} {B g n cap : Nat} {l : List Nat} (h : OwS w B g n cap l) {p : Addr} (hp : g ≠ p.block) (u : Value) : OwS (w.setCell p u) B g n cap l := by
  refine ⟨⟨h.1.1, ?_⟩, h.2⟩
  rcases h.1.2 with ⟨e, _⟩ | ⟨g', c', cur, e, hB, hgg, r⟩
  · cases e
  · have e' := e
    injection e with e1 _ e2; injection e1 with e1; injection e1 with e1; subst e1
    exact .inr ⟨g, c', cur, e', hB, (Below.heap_setCell w p u g hp).trans hgg, r⟩
end Go.Proofs.YtoiijifnfdgfpaaGreatDoor

/- Texts of fractions: plain. -/
namespace Bn
open Go.Lib
theorem cut_uniq {c : UInt8} : ∀ {a b x y : List UInt8}, c ∉ a → c ∉ x → a ++ c :: b = x ++ c :: y → a = x ∧ b = y := by
  intro a
  induction a with
  | nil =>
    intro b x y _ hx h
    cases x with
    | nil => simp at h; exact ⟨rfl, h⟩
    | cons z r => simp at h; exact absurd h.1 (fun e => hx (by rw [e]; simp))
  | cons w r ih =>
    intro b x y ha hx h
    cases x with
    | nil => simp at h; exact absurd h.1 (fun e => ha (by rw [e]; simp))
    | cons z s =>
      simp at h ha hx
      obtain ⟨e1, e2⟩ := ih ha.2 hx.2 h.2
      exact ⟨by rw [h.1, e1], e2⟩
def ratText (q : Rat) : List UInt8 := if q.den = 1 then itoa q.num else itoa q.num ++ 47 :: itoa (q.den : Int)
theorem index_at {c : UInt8} : ∀ {a b : List UInt8}, c ∉ a → index (a ++ c :: b) [c] = (a.length : Int) := by
  intro a
  induction a with
  | nil => intro b _; rw [List.nil_append, index, if_pos (by simp [List.isPrefixOf])]; rfl
  | cons x r ih =>
    intro b h
    simp at h
    have hp : List.isPrefixOf [c] (x :: (r ++ c :: b)) = false := by simp [List.isPrefixOf]; exact h.1
    rw [List.cons_append, index, hp, ih (b := b) h.2]
    have : ((r.length : Int) == -1) = false := by rw [beq_eq_false_iff_ne]; omega
    simp [this]
theorem index_no {c : UInt8} : ∀ {a : List UInt8}, c ∉ a → index a [c] = -1 := by
  intro a
  induction a with
  | nil => intro _; rfl
  | cons x r ih =>
    intro h
    simp at h
    have hp : List.isPrefixOf [c] (x :: r) = false := by simp [List.isPrefixOf]; exact h.1
    rw [index, hp, ih h.2]
    rfl
theorem cut_at {c : UInt8} {a b : List UInt8} (h : c ∉ a) : cut (a ++ c :: b) [c] = (a, b, true) := by
  unfold cut
  rw [index_at h, if_pos (by omega)]
  simp
theorem cut_no {c : UInt8} {a : List UInt8} (h : c ∉ a) : cut a [c] = (a, [], false) := by
  unfold cut
  rw [index_no h, if_neg (by omega)]
end Bn

/- Walks: what the integer laws lean on: short, Same; roots and texts as values. -/
namespace Go.Proofs.YtoiijifnfdgfpaaGreatDoor
open Go Go.RowKit Bn
attribute [local go_sem ↓] Go.wp_at_zero Go.wp_at_succ
def Ws (w : World) (g N : Nat) (ns : Nat → Nat) : Prop := g < w.heap.size ∧ ∀ i, i < N → ∃ b A c, w.cell? ⟨g, i * 2, none⟩ = some (.bool b) ∧ w.cell? ⟨g, i * 2 + 1, none⟩ = some (.slice A (ns i) c)
theorem Ws.belw {w w' : World} {g N : Nat} {ns : Nat → Nat} (h : Ws w g N ns) (hb : Below w.heap.size w w') : Ws w' g N ns := by
  obtain ⟨hg, h⟩ := h
  have hc := (bcell hb).1
  refine ⟨Nat.lt_of_lt_of_le hg hb.size, fun i hi => ?_⟩
  obtain ⟨b, A, c, h1, h2⟩ := h i hi
  exact ⟨b, A, c, (hc _ _ hg).trans h1, (hc _ _ hg).trans h2⟩
end Go.Proofs.YtoiijifnfdgfpaaGreatDoor

/- Walks: the opening of the integer laws. -/
namespace Go.Proofs.YtoiijifnfdgfpaaGreatDoor
open Go Go.RowKit Bn
attribute [local go_sem ↓] Go.wp_at_zero Go.wp_at_succ
theorem IZ.short {w : World} {b : Bool} {A : Option Addr} {n c k : Nat} {z : Int} (h : IZ w b A n c z k) (hs : n ≤ 30) : IZ w b A n c z 30 := by
  obtain ⟨l, h1, h2, _⟩ := h
  exact ⟨l, h1, h2, hs⟩
end Go.Proofs.YtoiijifnfdgfpaaGreatDoor
