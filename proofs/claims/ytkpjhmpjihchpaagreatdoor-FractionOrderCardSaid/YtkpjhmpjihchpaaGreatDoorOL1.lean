/- FractionOrder: a total order that agrees with sums and products; for every input the law returns true. The listed library variables are tied to the program text. -/
import Derived.Below
import Derived.Laws.OwnMore
import Derived.Deep.Draws
import Derived.OneCell
import Derived.Laws.Rows
import Derived.Test.YtkpjhmpjihchpaaGreatDoorProg
import Derived.WalkKit
import Derived.WalkSpells
import Derived.WalkLawsBesides
import Derived.BigQuiet
import Derived.Deep.QuietTactic
import Derived.Deep.AppendLies
import Derived.Lib.Hide
import Derived.Deep.RegionHeld3
import Derived.Deep.DrawnRows
import Derived.Shelf.Strings.Builder1
import Derived.Shelf.Strings.Builder2
import Derived.Shelf.Strings.OnBuilder
import Derived.Shelf.Strings.Trim
import Derived.Shelf.Small.Utf8
import Derived.Shelf.Small.Bits
import Derived.Shelf.Small.Strs
import Derived.Shelf.Strings.BuilderF
import Derived.Shelf.Strconv.Atoi
import Derived.Shelf.Strconv.Itoa0
import Derived.Shelf.Strconv.Itoa1
import Derived.Shelf.LaysM
import Derived.Shelf.Strconv.Itoa2
import Derived.Shelf.Strconv.Itoa3
import Derived.Shelf.Strings.Search1
import Derived.Shelf.Strings.Search2
import Derived.Shelf.Strings.Cut
import Derived.Shelf.Strings.Shaped
import Derived.Shelf.Strings.Prefix
import Derived.Shelf.Strings.Runes
import Derived.Shelf.Strings.AsciiSet
import Derived.Shelf.Bits.Mul64
import Derived.Shelf.Strings.Repeat
import Derived.Shelf.Unicode.DecodeSlow
import Derived.IntWalk
import Derived.Deep.DeepCutAuto
import Derived.Deep.RegionHeld
import Derived.Lib.ItoaNum
import Derived.Lib.ItoaMem
import Derived.Lib.Repeat
import Derived.Lib.Join
import Derived.Lib.IndexMore
import Derived.Lib.AppendIntMem
import Derived.Lib.Atoi
import Derived.Lib.SlTrimSet
import Derived.Shelf.Strings.SlTrimAscii
import Derived.Test.YtkpjhmpjihchpaaGreatDoorCards
import Derived.Test.YtkpjhmpjihchpaaGreatDoorTie
import Derived.ProofKit
import Derived.OpenShut
import Derived.Deep.DeepHandedRow
import Derived.Lib.LaidTab
import Derived.Shelf.Vars
import Derived.ChangeMaps5
import Derived.Test.YtkpjhmpjihchpaaGreatDoorA4
set_option linter.unusedVariables false
set_option maxHeartbeats 8000000
set_option maxRecDepth 100000
namespace Bn
theorem add_q (a b : Rat) : a + b = Rat.divInt (a.num * b.den + b.num * a.den) (a.den * b.den) := by
  conv => lhs; rw [q_eq a, q_eq b]
  exact Rat.divInt_add_divInt _ _ (den_ne a) (den_ne b)
theorem sign_q (q : Rat) : q.num.sign = if q < 0 then -1 else if q = 0 then 0 else 1 := by
  by_cases h : q < 0
  · rw [if_pos h]
    have : q.num < 0 := by
      rcases (show q.num < 0 ∨ 0 ≤ q.num by omega) with h1 | h1
      · exact h1
      · exact absurd (Rat.num_nonneg.1 h1) (Rat.not_le.2 h)
    exact Int.sign_eq_neg_one_of_neg this
  · rw [if_neg h]
    have h1 : 0 ≤ q.num := Rat.num_nonneg.2 (Rat.not_lt.1 h)
    by_cases h0 : q = 0
    · rw [if_pos h0, h0]; rfl
    · rw [if_neg h0]
      have : q.num ≠ 0 := fun e => h0 (Rat.num_eq_zero.1 e)
      exact Int.sign_eq_one_of_pos (by omega)
theorem cmp_q (a b : Rat) : (a.num * b.den < b.num * a.den ↔ a < b) ∧ (a.num * b.den = b.num * a.den ↔ a = b) := by
  refine ⟨(Rat.lt_iff a b).symm, ?_⟩
  constructor
  · intro h
    rw [q_eq a, q_eq b]
    exact (Rat.divInt_eq_divInt_iff (den_ne a) (den_ne b)).2 h
  · rintro rfl; rfl

theorem Sz_add {a b : Rat} {i j : Nat} (ha : Sz a i) (hb : Sz b j) : Sz (a + b) (i + j + 1) := by
  rw [add_q]
  have h1 := natAbs_mul_lt ha.1 (b := (b.den : Int)) (by simpa using hb.2)
  have h2 := natAbs_mul_lt hb.1 (b := (a.den : Int)) (by simpa using ha.2)
  rw [Nat.add_comm j i] at h2
  have h3 := natAbs_mul_lt (a := (a.den : Int)) (b := (b.den : Int)) (by simpa using ha.2) (by simpa using hb.2)
  exact Sz_divInt (natAbs_add_lt h1 h2) (Nat.lt_of_lt_of_le h3 (Nat.pow_le_pow_right (by omega) (by omega))) (by omega)
end Bn

namespace Go.Proofs.YtkpjhmpjihchpaaGreatDoor
open Go Go.RowKit Bn
attribute [local go_sem ↓] Go.wp_at_zero Go.wp_at_succ
theorem f_sign (w : World) (b : Bool) (A : Option Addr) (n c : Nat) (D : Option Addr) (m e : Nat) (q : Rat) (k : Nat) (h : QZ w b A n c D m e q k) (h0 : 0 < k) (hk : k ≤ 40000000) :
  Calls Tryz.prog 44 #[.agg #[.bool b, .slice A n c, .slice D m e]] w (RetV w (.int .i64 q.num.sign)) := by
 go_enter Tryz.func44, Tryz.ntmps44
 go_wp2_with fail
 (with_reducible refine (f_parts _ b A n c D m e (q) (k) ?_ ?_ ?_).mono ?_); (exact (h.belw ((Below.refl _ _).alloc (Nat.le_refl _) _))); (first | omega | decide | assumption); (first | omega | decide | assumption); rintro e w1 ⟨b1, A1, n1, c1, b'1, A'1, n'1, c'1, rfl, h1, h'1, hb1⟩
 have q1 := ((Below.refl _ _).alloc (Nat.le_refl _) _).trans (hb1.mono (by simp))
 replace h := h.belw q1
 have x1a : Blk w1 w.heap.size 24 #[.bool b, .slice A n c, .slice D m e] := (blkAt _ _ _ (by simp)).below hb1 (by simp)
 have bw1 := (brefl w).trans (q1.mono (brefl w).size)
 have lw1 : w.heap.size + 1 ≤ w1.heap.size := by have := hb1.size; simp at this; omega
 clear q1
 go_wp2_with fail
 (with_reducible refine (i_sign _ b1 A1 n1 c1 ((q).num) ((k)) ?_ ?_).mono ?_); (exact (h1.belw (((Below.refl _ _).alloc (Nat.le_refl _) _).alloc (by simp) _)).iz); (first | omega | decide | assumption); rintro e w2 ⟨rfl, hb2⟩
 have q2 := (((Below.refl _ _).alloc (Nat.le_refl _) _).alloc (by simp) _).trans (hb2.mono (by simp <;> omega))
 replace h := h.belw q2
 replace h1 := h1.belw q2
 replace h'1 := h'1.belw q2
 replace x1a := x1a.b q2
 have x2a : Blk w2 w1.heap.size 46 #[.bool b1, .slice A1 n1 c1] := ((blkAt _ _ _ (by simp)).alloc _).below hb2 (by simp <;> omega)
 have x2b := (blkAt _ _ _ (g := w1.heap.size + 1) (by simp)).below hb2 (by simp)
 have bw2 := bw1.trans (q2.mono bw1.size)
 have lw2 : w1.heap.size + 2 ≤ w2.heap.size := by have := hb2.size; simp at this; omega
 clear q2 bw1
 go_wp2_with fail
 go_ret
 exact retI rfl bw2
theorem f_add (w : World) (b : Bool) (A : Option Addr) (n c : Nat) (D : Option Addr) (m e : Nat) (q : Rat) (k : Nat) (h : QZ w b A n c D m e q k) (b' : Bool) (A' : Option Addr) (n' c' : Nat) (D' : Option Addr) (m' e' : Nat) (q' : Rat) (k' : Nat) (h' : QZ w b' A' n' c' D' m' e' q' k') (h0 : 0 < k) (hk : k ≤ 40000000) (h0' : 0 < k') (hk' : k' ≤ 40000000) :
    Calls Tryz.prog 42 #[.agg #[.bool b, .slice A n c, .slice D m e], .agg #[.bool b', .slice A' n' c', .slice D' m' e']] w (RetF w (q + q') (k + k' + 1)) := by
  have HS := Lib.hid (h.sz h0)
  have HS' := Lib.hid (h'.sz h0')
  go_enter Tryz.func42, Tryz.ntmps42
  go_wp2_with fail
  (with_reducible refine (f_parts _ b A n c D m e (q) (k) ?_ ?_ ?_).mono ?_); (exact (h.belw ((((Below.refl _ _).alloc (Nat.le_refl _) _).alloc (by simp) _).alloc (by simp <;> omega) _))); (first | omega | decide | assumption); (first | omega | decide | assumption); rintro e w1 ⟨b1, A1, n1, c1, b'1, A'1, n'1, c'1, rfl, h1, h'1, hb1⟩
  have q1 := ((((Below.refl _ _).alloc (Nat.le_refl _) _).alloc (by simp) _).alloc (by simp <;> omega) _).trans (hb1.mono (by simp <;> omega))
  replace h := h.belw q1
  replace h' := h'.belw q1
  have x1a : Blk w1 w.heap.size 24 #[.bool b, .slice A n c, .slice D m e] := (((blkAt _ _ _ (by simp)).alloc _).alloc _).below hb1 (by simp <;> omega)
  have x1b := ((blkAt _ _ _ (g := w.heap.size + 1) (by simp)).alloc _).below hb1 (by simp <;> omega)
  have x1c := (blkAt _ _ _ (g := w.heap.size + 1 + 1) (by simp)).below hb1 (by simp)
  have bw1 := (brefl w).trans (q1.mono (brefl w).size)
  have lw1 : w.heap.size + 3 ≤ w1.heap.size := by have := hb1.size; simp at this; omega
  clear q1
  obtain ⟨cx1ba, cx1bb, cx1bc⟩ := x1b.c3
  obtain ⟨lx1ba, lx1bb, lx1bc, lx1bd⟩ := lts1 x1b.lt
  go_wp2_with fail
  (with_reducible refine (f_parts _ b' A' n' c' D' m' e' (q') (k') ?_ ?_ ?_).mono ?_); (exact (h'.belw (((Below.refl _ _).alloc (Nat.le_refl _) _).alloc (by simp) _))); (first | omega | decide | assumption); (first | omega | decide | assumption); rintro e w2 ⟨b2, A2, n2, c2, b'2, A'2, n'2, c'2, rfl, h2, h'2, hb2⟩
  clear cx1ba cx1bb cx1bc lx1ba lx1bb lx1bc lx1bd
  have q2 := (((Below.refl _ _).alloc (Nat.le_refl _) _).alloc (by simp) _).trans (hb2.mono (by simp <;> omega))
  replace h := h.belw q2
  replace h' := h'.belw q2
  replace h1 := h1.belw q2
  replace h'1 := h'1.belw q2
  replace x1a := x1a.b q2
  replace x1b := x1b.b q2
  replace x1c := x1c.b q2
  have x2a : Blk w2 w1.heap.size 46 #[.bool b1, .slice A1 n1 c1] := ((blkAt _ _ _ (by simp)).alloc _).below hb2 (by simp <;> omega)
  have x2b := (blkAt _ _ _ (g := w1.heap.size + 1) (by simp)).below hb2 (by simp)
  have bw2 := bw1.trans (q2.mono bw1.size)
  have lw2 : w1.heap.size + 2 ≤ w2.heap.size := by have := hb2.size; simp at this; omega
  clear q2 bw1
  go_wp2_with fail
  have p3 := (((Kp.refl w2).alloc (.cells #[.bool b2, .slice A2 n2 c2] 46)).alloc (.cells #[.bool b'2, .slice A'2 n'2 c'2] 46))
  have bw3 := ((bw2.alloc (by first | omega | (simp <;> omega)) (.cells #[.bool b2, .slice A2 n2 c2] 46)).alloc (by first | omega | (simp <;> omega)) (.cells #[.bool b'2, .slice A'2 n'2 c'2] 46))
  have x3a : Blk ((w2.alloc (.cells #[.bool b2, .slice A2 n2 c2] 46)).alloc (.cells #[.bool b'2, .slice A'2 n'2 c'2] 46)) w2.heap.size 46 #[.bool b2, .slice A2 n2 c2] := ((blkAt _ _ _ (by simp)).alloc (.cells #[.bool b'2, .slice A'2 n'2 c'2] 46))
  have x3b : Blk ((w2.alloc (.cells #[.bool b2, .slice A2 n2 c2] 46)).alloc (.cells #[.bool b'2, .slice A'2 n'2 c'2] 46)) (w2.heap.size + 1) 46 #[.bool b'2, .slice A'2 n'2 c'2] := (blkAt _ _ _ (by simp))
  replace x1a := ((x1a.alloc (.cells #[.bool b2, .slice A2 n2 c2] 46)).alloc (.cells #[.bool b'2, .slice A'2 n'2 c'2] 46))
  replace x1b := ((x1b.alloc (.cells #[.bool b2, .slice A2 n2 c2] 46)).alloc (.cells #[.bool b'2, .slice A'2 n'2 c'2] 46))
  replace x1c := ((x1c.alloc (.cells #[.bool b2, .slice A2 n2 c2] 46)).alloc (.cells #[.bool b'2, .slice A'2 n'2 c'2] 46))
  replace x2a := ((x2a.alloc (.cells #[.bool b2, .slice A2 n2 c2] 46)).alloc (.cells #[.bool b'2, .slice A'2 n'2 c'2] 46))
  replace x2b := ((x2b.alloc (.cells #[.bool b2, .slice A2 n2 c2] 46)).alloc (.cells #[.bool b'2, .slice A'2 n'2 c'2] 46))
  have lw3 : w2.heap.size + 2 ≤ ((w2.alloc (.cells #[.bool b2, .slice A2 n2 c2] 46)).alloc (.cells #[.bool b'2, .slice A'2 n'2 c'2] 46)).heap.size := by simp
  generalize hE3 : ((w2.alloc (.cells #[.bool b2, .slice A2 n2 c2] 46)).alloc (.cells #[.bool b'2, .slice A'2 n'2 c'2] 46)) = w3 at p3 bw3 lw3 x3a x3b x1a x1b x1c x2a x2b ⊢
  clear hE3
  replace h := h.keep p3
  replace h' := h'.keep p3
  replace h1 := h1.keep p3
  replace h'1 := h'1.keep p3
  replace h2 := h2.keep p3
  replace h'2 := h'2.keep p3
  clear bw2
  obtain ⟨lx1aa, lx1ab, lx1ac, lx1ad⟩ := lts0 x1a.lt
  obtain ⟨lx1ba, lx1bb, lx1bc, lx1bd⟩ := lts1 x1b.lt
  have cx1ca : w3.cell? ⟨w.heap.size + 1 + 1, 0, none⟩ = some (.bool false) := x1c.cell 0
  have fx1ca : w3.frozen? ⟨w.heap.size + 1 + 1, 0, none⟩ = false := x1c.frozen 0
  have cx1cb : w3.cell? ⟨w.heap.size + 1 + 1, 1, none⟩ = some (.slice none 0 0) := x1c.cell 1
  have fx1cb : w3.frozen? ⟨w.heap.size + 1 + 1, 1, none⟩ = false := x1c.frozen 1
  have cx1cc : w3.cell? ⟨w.heap.size + 1 + 1, 2, none⟩ = some (.slice none 0 0) := x1c.cell 2
  have fx1cc : w3.frozen? ⟨w.heap.size + 1 + 1, 2, none⟩ = false := x1c.frozen 2
  obtain ⟨lx1ca, lx1cb, lx1cc, lx1cd⟩ := lts2 x1c.lt
  obtain ⟨cx2aa, cx2ab⟩ := x2a.c2
  obtain ⟨lx2aa, lx2ab, lx2ac, lx2ad⟩ := lts0 x2a.lt
  obtain ⟨cx2ba, cx2bb⟩ := x2b.c2
  obtain ⟨lx2ba, lx2bb, lx2bc, lx2bd⟩ := lts1 x2b.lt
  obtain ⟨cx3aa, cx3ab⟩ := x3a.c2
  obtain ⟨lx3aa, lx3ab, lx3ac, lx3ad⟩ := lts0 x3a.lt
  obtain ⟨cx3ba, cx3bb⟩ := x3b.c2
  obtain ⟨lx3ba, lx3bb, lx3bc, lx3bd⟩ := lts1 x3b.lt
  have nfx1_0 : ¬ w.heap.size = w.heap.size + 1 + 1 := by omega
  have nex1_0 : ¬ w.heap.size = w.heap.size + 2 := by omega
  have nfx1_1 : ¬ w.heap.size + 1 = w.heap.size + 1 + 1 := by omega
  have nex1_1 : ¬ w.heap.size = w.heap.size + 1 := by omega
  have nfx2_0 : ¬ w1.heap.size = w.heap.size + 1 + 1 := by omega
  have nex2_0 : ¬ w1.heap.size = w.heap.size + 2 := by omega
  have nfx2_1 : ¬ w1.heap.size + 1 = w.heap.size + 1 + 1 := by omega
  have nex2_1 : ¬ w1.heap.size = w.heap.size + 1 := by omega
  have nfx3_0 : ¬ w2.heap.size = w.heap.size + 1 + 1 := by omega
  have nex3_0 : ¬ w2.heap.size = w.heap.size + 2 := by omega
  have nfx3_1 : ¬ w2.heap.size + 1 = w.heap.size + 1 + 1 := by omega
  have nex3_1 : ¬ w2.heap.size = w.heap.size + 1 := by omega
  go_region_held3 (fun w' => SeesX w3.heap.size (w.heap.size + 1 + 1) w3 w') (first | with_reducible exact SeesX.of (Nat.le_refl _) (by assumption) | with_reducible exact SeesX.of (Nat.le_refl _) (brefl _).drew | with_reducible exact (SeesX.set (SeesX.set (SeesX.set (SeesX.of (Nat.le_refl _) (by assumption))))) | with_reducible exact (SeesX.set (SeesX.set (SeesX.of (Nat.le_refl _) (by assumption)))) | with_reducible exact (SeesX.set (SeesX.of (Nat.le_refl _) (by assumption))) | exact SeesX.of (Nat.le_refl _) (below_drewN (brefl _) 1) | exact SeesX.of (Nat.le_refl _) (below_drewN (by assumption) _))
    (first
      | (go_at_call 106; (with_reducible refine (i_mul _ b1 A1 n1 c1 ((q).num) ((k)) ?_ b'2 A'2 n'2 c'2 (((q').den : Int)) ((k')) ?_ ?_).mono ?_); (exact h1.iz); (exact h'2.iz); (first | omega | decide | assumption); rintro e w4 ⟨b4, A4, n4, c4, rfl, h4, hb4⟩; replace hb4 := bnext (below_drewN (brefl _) 1) hb4; have q4 : Below w3.heap.size w3 w4 := bnext (brefl w3) hb4; replace h := h.belw hb4; replace h' := h'.belw hb4; replace h1 := h1.belw hb4; replace h'1 := h'1.belw hb4; replace h2 := h2.belw hb4; replace h'2 := h'2.belw hb4)
      | (go_at_call 106; (with_reducible refine (i_mul _ b2 A2 n2 c2 ((q').num) ((k')) ?_ b'1 A'1 n'1 c'1 (((q).den : Int)) ((k)) ?_ ?_).mono ?_); (exact h2.iz); (exact h'1.iz); (first | omega | decide | assumption); rintro e w5 ⟨b5, A5, n5, c5, rfl, h5, hb5⟩; have q5 : Below w3.heap.size w3 w5 := bnext q4 hb5; replace h := h.belw hb5; replace h' := h'.belw hb5; replace h1 := h1.belw hb5; replace h'1 := h'1.belw hb5; replace h2 := h2.belw hb5; replace h'2 := h'2.belw hb5; replace h4 := h4.belw hb5)
      | (go_at_call 107; (with_reducible refine (i_add _ b4 A4 n4 c4 (((q).num) * (((q').den : Int))) (((k)) + ((k'))) ?_ b5 A5 n5 c5 (((q').num) * (((q).den : Int))) (((k')) + ((k))) ?_ ?_).mono ?_); (exact h4.iz); (exact h5.iz); (first | omega | decide | assumption); rintro e w6 ⟨b6, A6, n6, c6, rfl, h6, hb6⟩; have q6 : Below w3.heap.size w3 w6 := bnext q5 hb6; replace h := h.belw hb6; replace h' := h'.belw hb6; replace h1 := h1.belw hb6; replace h'1 := h'1.belw hb6; replace h2 := h2.belw hb6; replace h'2 := h'2.belw hb6; replace h4 := h4.belw hb6; replace h5 := h5.belw hb6)
      | (go_at_call 106; (with_reducible refine (i_mul _ b'1 A'1 n'1 c'1 (((q).den : Int)) ((k)) ?_ b'2 A'2 n'2 c'2 (((q').den : Int)) ((k')) ?_ ?_).mono ?_); (exact h'1.iz); (exact h'2.iz); (first | omega | decide | assumption); rintro e w7 ⟨b7, A7, n7, c7, rfl, h7, hb7⟩; have q7 : Below w3.heap.size w3 w7 := bnext q6 hb7; replace h := h.belw hb7; replace h' := h'.belw hb7; replace h1 := h1.belw hb7; replace h'1 := h'1.belw hb7; replace h2 := h2.belw hb7; replace h'2 := h'2.belw hb7; replace h4 := h4.belw hb7; replace h5 := h5.belw hb7; replace h6 := h6.belw hb7)
      | (go_at_call 89; (with_reducible refine (f_form _ b6 A6 n6 c6 ((((q).num) * (((q').den : Int))) + (((q').num) * (((q).den : Int)))) ((((k)) + ((k'))) + (((k')) + ((k))) + 1) ?_ b7 A7 n7 c7 ((((q).den : Int)) * (((q').den : Int))) (((k)) + ((k'))) ?_ (q + q') (k + k' + 1) ?_ ?_ ?_ ?_).mono ?_); (exact h6.iz); (exact h7.iz); (exact Int.mul_ne_zero (den_ne _) (den_ne _)); (exact (add_q _ _).symm); (exact Sz_add HS.out HS'.out); (omega); rintro e w8 ⟨b8, A8, n8, c8, A'8, n'8, c'8, rfl, h8, hb8⟩; have q8 : Below w3.heap.size w3 w8 := bnext q7 hb8; replace h := h.belw hb8; replace h' := h'.belw hb8; replace h1 := h1.belw hb8; replace h'1 := h'1.belw hb8; replace h2 := h2.belw hb8; replace h'2 := h'2.belw hb8; replace h4 := h4.belw hb8; replace h5 := h5.belw hb8; replace h6 := h6.belw hb8; replace h7 := h7.belw hb8; have x1c := x1c.b q8; obtain ⟨cx1ca, cx1cb, cx1cc⟩ := x1c.c3; obtain ⟨fx1ca, fx1cb, fx1cc⟩ := x1c.f3))
  have bw8 := bw3.trans (q8.mono bw3.size)
  clear lx1aa lx1ab lx1ac lx1ad lx1ba lx1bb lx1bc lx1bd cx1ca fx1ca cx1cb fx1cb cx1cc fx1cc lx1ca lx1cb lx1cc lx1cd cx2aa cx2ab lx2aa lx2ab lx2ac lx2ad cx2ba cx2bb lx2ba lx2bb lx2bc lx2bd cx3aa cx3ab lx3aa lx3ab lx3ac lx3ad cx3ba cx3bb lx3ba lx3bb lx3bc lx3bd
  replace x1a := x1a.b q8
  replace x1b := x1b.b q8
  replace x2a := x2a.b q8
  replace x2b := x2b.b q8
  replace x3a := x3a.b q8
  replace x3b := x3b.b q8
  have lw8 := q8.size
  obtain ⟨cx1ca, cx1cb, cx1cc⟩ := x1c.c3
  obtain ⟨fx1ca, fx1cb, fx1cc⟩ := x1c.f3
  go_wp2_with fail
  refine bodyPost_ret (v := .agg #[.bool b8, .slice A8 n8 c8, .slice A'8 n'8 c'8]) (by simp [results, Tryz.results42, go_sem, *] <;> first | rfl | exact ⟨rfl, rfl⟩) rfl ?_
  exact ⟨b8, A8, n8, c8, A'8, n'8, c'8, rfl, h8.keep ((((Kp.refl w8).sb (w.heap.size + 1 + 1) 0 x1c.box (by decide) (.bool b8)).sb (w.heap.size + 1 + 1) 1 (x1c.box.set ⟨w.heap.size + 1 + 1, 0, none⟩ (.bool b8)) (by decide) (.slice A8 n8 c8)).sb (w.heap.size + 1 + 1) 2 ((x1c.box.set ⟨w.heap.size + 1 + 1, 0, none⟩ (.bool b8)).set ⟨w.heap.size + 1 + 1, 1, none⟩ (.slice A8 n8 c8)) (by decide) (.slice A'8 n'8 c'8)), (((bw8.sc (w.heap.size + 1 + 1) 0 (by omega) (.bool b8)).sc (w.heap.size + 1 + 1) 1 (by omega) (.slice A8 n8 c8)).sc (w.heap.size + 1 + 1) 2 (by omega) (.slice A'8 n'8 c'8))⟩
theorem f_cmp (w : World) (b : Bool) (A : Option Addr) (n c : Nat) (D : Option Addr) (m e : Nat) (q : Rat) (k : Nat) (h : QZ w b A n c D m e q k) (b' : Bool) (A' : Option Addr) (n' c' : Nat) (D' : Option Addr) (m' e' : Nat) (q' : Rat) (k' : Nat) (h' : QZ w b' A' n' c' D' m' e' q' k') (h0 : 0 < k) (hk : k ≤ 40000000) (h0' : 0 < k') (hk' : k' ≤ 40000000) :
    Calls Tryz.prog 41 #[.agg #[.bool b, .slice A n c, .slice D m e], .agg #[.bool b', .slice A' n' c', .slice D' m' e']] w (RetV w (.int .i64 (cmpI (q.num * q'.den) (q'.num * q.den)))) := by
  go_enter Tryz.func41, Tryz.ntmps41
  go_wp2_with fail
  (with_reducible refine (f_parts _ b A n c D m e (q) (k) ?_ ?_ ?_).mono ?_); (exact (h.belw (((Below.refl _ _).alloc (Nat.le_refl _) _).alloc (by simp) _))); (first | omega | decide | assumption); (first | omega | decide | assumption); rintro e w1 ⟨b1, A1, n1, c1, b'1, A'1, n'1, c'1, rfl, h1, h'1, hb1⟩
  have q1 := (((Below.refl _ _).alloc (Nat.le_refl _) _).alloc (by simp) _).trans (hb1.mono (by simp <;> omega))
  replace h := h.belw q1
  replace h' := h'.belw q1
  have x1a : Blk w1 w.heap.size 24 #[.bool b, .slice A n c, .slice D m e] := ((blkAt _ _ _ (by simp)).alloc _).below hb1 (by simp <;> omega)
  have x1b := (blkAt _ _ _ (g := w.heap.size + 1) (by simp)).below hb1 (by simp)
  have bw1 := (brefl w).trans (q1.mono (brefl w).size)
  have lw1 : w.heap.size + 2 ≤ w1.heap.size := by have := hb1.size; simp at this; omega
  clear q1
  obtain ⟨cx1ba, cx1bb, cx1bc⟩ := x1b.c3
  obtain ⟨lx1ba, lx1bb, lx1bc, lx1bd⟩ := lts1 x1b.lt
  go_wp2_with fail
  (with_reducible refine (f_parts _ b' A' n' c' D' m' e' (q') (k') ?_ ?_ ?_).mono ?_); (exact (h'.belw (((Below.refl _ _).alloc (Nat.le_refl _) _).alloc (by simp) _))); (first | omega | decide | assumption); (first | omega | decide | assumption); rintro e w2 ⟨b2, A2, n2, c2, b'2, A'2, n'2, c'2, rfl, h2, h'2, hb2⟩
  clear cx1ba cx1bb cx1bc lx1ba lx1bb lx1bc lx1bd
  have q2 := (((Below.refl _ _).alloc (Nat.le_refl _) _).alloc (by simp) _).trans (hb2.mono (by simp <;> omega))
  replace h := h.belw q2
  replace h' := h'.belw q2
  replace h1 := h1.belw q2
  replace h'1 := h'1.belw q2
  replace x1a := x1a.b q2
  replace x1b := x1b.b q2
  have x2a : Blk w2 w1.heap.size 46 #[.bool b1, .slice A1 n1 c1] := ((blkAt _ _ _ (by simp)).alloc _).below hb2 (by simp <;> omega)
  have x2b := (blkAt _ _ _ (g := w1.heap.size + 1) (by simp)).below hb2 (by simp)
  have bw2 := bw1.trans (q2.mono bw1.size)
  have lw2 : w1.heap.size + 2 ≤ w2.heap.size := by have := hb2.size; simp at this; omega
  clear q2 bw1
  go_wp2_with fail
  have p3 := (((Kp.refl w2).alloc (.cells #[.bool b2, .slice A2 n2 c2] 46)).alloc (.cells #[.bool b'2, .slice A'2 n'2 c'2] 46))
  have bw3 := ((bw2.alloc (by first | omega | (simp <;> omega)) (.cells #[.bool b2, .slice A2 n2 c2] 46)).alloc (by first | omega | (simp <;> omega)) (.cells #[.bool b'2, .slice A'2 n'2 c'2] 46))
  have x3a : Blk ((w2.alloc (.cells #[.bool b2, .slice A2 n2 c2] 46)).alloc (.cells #[.bool b'2, .slice A'2 n'2 c'2] 46)) w2.heap.size 46 #[.bool b2, .slice A2 n2 c2] := ((blkAt _ _ _ (by simp)).alloc (.cells #[.bool b'2, .slice A'2 n'2 c'2] 46))
  have x3b : Blk ((w2.alloc (.cells #[.bool b2, .slice A2 n2 c2] 46)).alloc (.cells #[.bool b'2, .slice A'2 n'2 c'2] 46)) (w2.heap.size + 1) 46 #[.bool b'2, .slice A'2 n'2 c'2] := (blkAt _ _ _ (by simp))
  replace x1a := ((x1a.alloc (.cells #[.bool b2, .slice A2 n2 c2] 46)).alloc (.cells #[.bool b'2, .slice A'2 n'2 c'2] 46))
  replace x1b := ((x1b.alloc (.cells #[.bool b2, .slice A2 n2 c2] 46)).alloc (.cells #[.bool b'2, .slice A'2 n'2 c'2] 46))
  replace x2a := ((x2a.alloc (.cells #[.bool b2, .slice A2 n2 c2] 46)).alloc (.cells #[.bool b'2, .slice A'2 n'2 c'2] 46))
  replace x2b := ((x2b.alloc (.cells #[.bool b2, .slice A2 n2 c2] 46)).alloc (.cells #[.bool b'2, .slice A'2 n'2 c'2] 46))
  have lw3 : w2.heap.size + 2 ≤ ((w2.alloc (.cells #[.bool b2, .slice A2 n2 c2] 46)).alloc (.cells #[.bool b'2, .slice A'2 n'2 c'2] 46)).heap.size := by simp
  generalize hE3 : ((w2.alloc (.cells #[.bool b2, .slice A2 n2 c2] 46)).alloc (.cells #[.bool b'2, .slice A'2 n'2 c'2] 46)) = w3 at p3 bw3 lw3 x3a x3b x1a x1b x2a x2b ⊢
  clear hE3
  replace h := h.keep p3
  replace h' := h'.keep p3
  replace h1 := h1.keep p3
  replace h'1 := h'1.keep p3
  replace h2 := h2.keep p3
  replace h'2 := h'2.keep p3
  clear bw2
  obtain ⟨lx1aa, lx1ab, lx1ac, lx1ad⟩ := lts0 x1a.lt
  obtain ⟨lx1ba, lx1bb, lx1bc, lx1bd⟩ := lts1 x1b.lt
  obtain ⟨cx2aa, cx2ab⟩ := x2a.c2
  obtain ⟨lx2aa, lx2ab, lx2ac, lx2ad⟩ := lts0 x2a.lt
  obtain ⟨cx2ba, cx2bb⟩ := x2b.c2
  obtain ⟨lx2ba, lx2bb, lx2bc, lx2bd⟩ := lts1 x2b.lt
  obtain ⟨cx3aa, cx3ab⟩ := x3a.c2
  obtain ⟨lx3aa, lx3ab, lx3ac, lx3ad⟩ := lts0 x3a.lt
  obtain ⟨cx3ba, cx3bb⟩ := x3b.c2
  obtain ⟨lx3ba, lx3bb, lx3bc, lx3bd⟩ := lts1 x3b.lt
  go_region_held3 (fun w' => Sees w3.heap.size w3 w') (first | with_reducible exact Sees.of (Nat.le_refl _) (by assumption) | with_reducible exact Sees.of (Nat.le_refl _) (brefl _).drew | exact Sees.of (Nat.le_refl _) (below_drewN (brefl _) 1) | exact Sees.of (Nat.le_refl _) (below_drewN (by assumption) _))
    (first
      | (go_at_call 106; (with_reducible refine (i_mul _ b1 A1 n1 c1 ((q).num) ((k)) ?_ b'2 A'2 n'2 c'2 (((q').den : Int)) ((k')) ?_ ?_).mono ?_); (exact h1.iz); (exact h'2.iz); (first | omega | decide | assumption); rintro e w4 ⟨b4, A4, n4, c4, rfl, h4, hb4⟩; replace hb4 := bnext (below_drewN (brefl _) 1) hb4; have q4 : Below w3.heap.size w3 w4 := bnext (brefl w3) hb4; replace h := h.belw hb4; replace h' := h'.belw hb4; replace h1 := h1.belw hb4; replace h'1 := h'1.belw hb4; replace h2 := h2.belw hb4; replace h'2 := h'2.belw hb4)
      | (go_at_call 106; (with_reducible refine (i_mul _ b2 A2 n2 c2 ((q').num) ((k')) ?_ b'1 A'1 n'1 c'1 (((q).den : Int)) ((k)) ?_ ?_).mono ?_); (exact h2.iz); (exact h'1.iz); (first | omega | decide | assumption); rintro e w5 ⟨b5, A5, n5, c5, rfl, h5, hb5⟩; have q5 : Below w3.heap.size w3 w5 := bnext q4 hb5; replace h := h.belw hb5; replace h' := h'.belw hb5; replace h1 := h1.belw hb5; replace h'1 := h'1.belw hb5; replace h2 := h2.belw hb5; replace h'2 := h'2.belw hb5; replace h4 := h4.belw hb5)
      | (go_at_call 59; (with_reducible refine (i_cmp _ b4 A4 n4 c4 (((q).num) * (((q').den : Int))) (((k)) + ((k'))) ?_ b5 A5 n5 c5 (((q').num) * (((q).den : Int))) (((k')) + ((k))) ?_ ?_).mono ?_); (exact h4.iz); (exact h5.iz); (first | omega | decide | assumption); rintro e w6 ⟨rfl, hb6⟩; have q6 : Below w3.heap.size w3 w6 := bnext q5 hb6; replace h := h.belw hb6; replace h' := h'.belw hb6; replace h1 := h1.belw hb6; replace h'1 := h'1.belw hb6; replace h2 := h2.belw hb6; replace h'2 := h'2.belw hb6; replace h4 := h4.belw hb6; replace h5 := h5.belw hb6))
  have bw6 := bw3.trans (q6.mono bw3.size)
  clear lx1aa lx1ab lx1ac lx1ad lx1ba lx1bb lx1bc lx1bd cx2aa cx2ab lx2aa lx2ab lx2ac lx2ad cx2ba cx2bb lx2ba lx2bb lx2bc lx2bd cx3aa cx3ab lx3aa lx3ab lx3ac lx3ad cx3ba cx3bb lx3ba lx3bb lx3bc lx3bd
  replace x1a := x1a.b q6
  replace x1b := x1b.b q6
  replace x2a := x2a.b q6
  replace x2b := x2b.b q6
  replace x3a := x3a.b q6
  replace x3b := x3b.b q6
  have lw6 := q6.size
  go_wp2_with fail
  go_ret
  exact retI rfl bw6
end Go.Proofs.YtkpjhmpjihchpaaGreatDoor

namespace Bn
def rcmp (a b : Rat) : Int := if a < b then -1 else if a = b then 0 else 1
theorem rcmp_neg (a b : Rat) : rcmp a b = - rcmp b a := by
  unfold rcmp
  rcases (show a < b ∨ a = b ∨ b < a by grind) with h | h | h
  · rw [if_pos h, if_neg (by grind), if_neg (by grind)]
  · subst h; simp
  · rw [if_pos h, if_neg (by grind), if_neg (by grind)]; rfl
theorem rcmp_zero {a b : Rat} : rcmp a b = 0 ↔ a = b := by
  unfold rcmp
  split
  · grind
  · split
    · simpa
    · simpa
end Bn

namespace Go.Proofs.YtkpjhmpjihchpaaGreatDoor
open Go Go.RowKit Bn
attribute [local go_sem ↓] Go.wp_at_zero Go.wp_at_succ
theorem cmpI_rc (a b : Rat) : cmpI (a.num * b.den) (b.num * a.den) = rcmp a b := by
  unfold cmpI rcmp
  have h := cmp_q a b
  by_cases h1 : a < b
  · rw [if_pos h1, if_pos (h.1.2 h1)]
  · rw [if_neg h1, if_neg (fun x => h1 (h.1.1 x))]
    by_cases h2 : a = b
    · rw [if_pos h2, if_pos (h.2.2 h2)]
    · rw [if_neg h2, if_neg (fun x => h2 (h.2.1 x))]
theorem f_sign_v (w : World) (b : Bool) (A : Option Addr) (n c : Nat) (D : Option Addr) (m e : Nat) (q : Rat) (k : Nat) (h : QZ w b A n c D m e q k) (s : Int) (hs : q.num.sign = s) (h0 : 0 < k) (hk : k ≤ 40000000) : Calls Tryz.prog 44 #[.agg #[.bool b, .slice A n c, .slice D m e]] w (RetV w (.int .i64 s)) := by subst hs; exact f_sign w b A n c D m e q k h h0 hk
theorem f_cmp_v (w : World) (b : Bool) (A : Option Addr) (n c : Nat) (D : Option Addr) (m e : Nat) (q : Rat) (k : Nat) (h : QZ w b A n c D m e q k) (b' : Bool) (A' : Option Addr) (n' c' : Nat) (D' : Option Addr) (m' e' : Nat) (q' : Rat) (k' : Nat) (h' : QZ w b' A' n' c' D' m' e' q' k') (s : Int) (hs : rcmp q q' = s) (h0 : 0 < k) (hk : k ≤ 40000000) (h0' : 0 < k') (hk' : k' ≤ 40000000) : Calls Tryz.prog 41 #[.agg #[.bool b, .slice A n c, .slice D m e], .agg #[.bool b', .slice A' n' c', .slice D' m' e']] w (RetV w (.int .i64 s)) := by
  subst hs; rw [← cmpI_rc]; exact f_cmp w b A n c D m e q k h b' A' n' c' D' m' e' q' k' h' h0 hk h0' hk'
end Go.Proofs.YtkpjhmpjihchpaaGreatDoor

namespace Go.Proofs.YtkpjhmpjihchpaaGreatDoor
open Go Go.RowKit Bn
attribute [local go_sem ↓] Go.wp_at_zero Go.wp_at_succ
theorem rsq3 {w : World} {g : Nat} {T : TypeId} {b : Bool} {A : Option Addr} {n c : Nat} {D : Option Addr} {m e : Nat} {b1 : Bool} {A1 : Option Addr} {n1 c1 : Nat} {D1 : Option Addr} {m1 e1 : Nat} {b2 : Bool} {A2 : Option Addr} {n2 c2 : Nat} {D2 : Option Addr} {m2 e2 : Nat}
    (hb : Blk w g T #[.bool b, .slice A n c, .slice D m e, .bool b1, .slice A1 n1 c1, .slice D1 m1 e1, .bool b2, .slice A2 n2 c2, .slice D2 m2 e2]) : RsQ w g 3 (fun i : Nat => if i = 0 then n else if i = 1 then n1 else n2) (fun i : Nat => if i = 0 then m else if i = 1 then m1 else m2) := by
  refine ⟨hb.lt, fun i hi => ?_⟩
  match i, hi with
  | 0, _ => exact ⟨_, _, _, _, _, hb.cell 0, hb.cell 1, hb.cell 2⟩
  | 1, _ => exact ⟨_, _, _, _, _, hb.cell 3, hb.cell 4, hb.cell 5⟩
  | 2, _ => exact ⟨_, _, _, _, _, hb.cell 6, hb.cell 7, hb.cell 8⟩
theorem QD.short2 {w : World} {b : Bool} {A D : Option Addr} {n c m e k : Nat} {r : RD} (h : QD w b A n c D m e r k) (hs : n ≤ 12 ∧ m ≤ 12) : QD w b A n c D m e r 12 := ⟨h.1, h.2.1, h.2.2.1, hs.1, hs.2⟩
end Go.Proofs.YtkpjhmpjihchpaaGreatDoor

namespace Bn
theorem rcmp_low (a b : Rat) : -1 ≤ rcmp a b ∧ rcmp a b ≤ 1 := by
  unfold rcmp; (repeat' split) <;> omega
theorem rcmp_cases (a b : Rat) : (a < b ∧ rcmp a b = -1) ∨ (a = b ∧ rcmp a b = 0) ∨ (b < a ∧ rcmp a b = 1) := by
  have h1 := rcmp_neg a b
  rcases (show a < b ∨ a = b ∨ b < a by grind) with h | h | h
  · left; exact ⟨h, by unfold rcmp; rw [if_pos h]⟩
  · right; left; exact ⟨h, rcmp_zero.2 h⟩
  · right; right; exact ⟨h, by rw [h1]; unfold rcmp; rw [if_pos h]; rfl⟩
theorem rcmp_add (a b c : Rat) : rcmp (a + c) (b + c) = rcmp a b := by
  have h1 : a + c < b + c ↔ a < b := Rat.add_lt_add_right
  have h2 : a + c = b + c ↔ a = b := ⟨Rat.add_right_cancel c, fun h => by rw [h]⟩
  unfold rcmp
  simp only [h1, h2]
theorem sign_rc (c : Rat) : c.num.sign = rcmp c 0 := sign_q c
theorem rcmp_mul (a b c : Rat) : rcmp (a * c) (b * c) = rcmp a b * c.num.sign := by
  rw [sign_rc]
  rcases rcmp_cases c 0 with ⟨h, e⟩ | ⟨h, e⟩ | ⟨h, e⟩
  · have hn : 0 < -c := by grind
    have k1 : a * c < b * c ↔ b < a := by
      rw [← Rat.mul_lt_mul_right (a := b) (b := a) hn, Rat.mul_neg, Rat.mul_neg, Rat.neg_lt_neg_iff]
    have k2 : b * c < a * c ↔ a < b := by
      rw [← Rat.mul_lt_mul_right (a := a) (b := b) hn, Rat.mul_neg, Rat.mul_neg, Rat.neg_lt_neg_iff]
    rw [e]
    rcases rcmp_cases a b with ⟨g, f⟩ | ⟨g, f⟩ | ⟨g, f⟩
    · rw [f, rcmp_neg]
      have := k2.2 g
      unfold rcmp; rw [if_pos this]; rfl
    · subst g; rw [rcmp_zero.2 rfl, rcmp_zero.2 rfl]; rfl
    · rw [f]
      have := k1.2 g
      unfold rcmp; rw [if_pos this]; rfl
  · rw [e, h, Rat.mul_zero, Rat.mul_zero, rcmp_zero.2 rfl, Int.mul_zero]
  · have k1 : a * c < b * c ↔ a < b := Rat.mul_lt_mul_right h
    have k2 : b * c < a * c ↔ b < a := Rat.mul_lt_mul_right h
    rw [e, Int.mul_one]
    rcases rcmp_cases a b with ⟨g, f⟩ | ⟨g, f⟩ | ⟨g, f⟩
    · rw [f]
      have := k1.2 g
      unfold rcmp; rw [if_pos this]
    · subst g; rw [rcmp_zero.2 rfl, rcmp_zero.2 rfl]
    · rw [f, rcmp_neg]
      have := k2.2 g
      unfold rcmp; rw [if_pos this]; rfl
theorem rcmp_le {a b : Rat} : ¬ 0 < rcmp a b ↔ a ≤ b := by
  rcases rcmp_cases a b with ⟨h, e⟩ | ⟨h, e⟩ | ⟨h, e⟩
  · rw [e]; exact ⟨fun _ => Rat.le_of_lt h, fun _ => by omega⟩
  · rw [e, h]; exact ⟨fun _ => Rat.le_refl, fun _ => by omega⟩
  · rw [e]; exact ⟨fun x => absurd (by omega) x, fun x => absurd h (Rat.not_lt.2 x)⟩
theorem rcmp_trans {a b c : Rat} (h1 : ¬ 0 < rcmp a b) (h2 : ¬ 0 < rcmp b c) : rcmp a c ≤ 0 := by
  have := rcmp_le.2 (Rat.le_trans (rcmp_le.1 h1) (rcmp_le.1 h2))
  omega
theorem wd_ext {l l' : List Nat} (hn : l.length = l'.length) (h : ∀ i, i < l.length → wd l i = wd l' i) : l = l' := by
  refine List.ext_getElem hn fun i h1 h2 => ?_
  have := h i h1
  rw [wd_get h1, wd_get h2] at this
  exact this
theorem wd_ne {l l' : List Nat} (hn : l.length = l'.length) (h : l ≠ l') : ∃ i, i < l.length ∧ wd l i ≠ wd l' i := by
  apply Classical.byContradiction
  intro hc
  apply h
  refine wd_ext hn fun i hi => ?_
  apply Classical.byContradiction
  intro e
  exact hc ⟨i, hi, e⟩
theorem rd_inj {q q' : Rat} (h : rd q = rd q') : q = q' := by rw [← rd_q q, ← rd_q q', h]
theorem rd_ne {q q' : Rat} (h : q ≠ q') : (rd q).neg ≠ (rd q').neg ∨ ((rd q).neg = (rd q').neg ∧ (rd q).num ≠ (rd q').num) ∨ ((rd q).neg = (rd q').neg ∧ (rd q).num = (rd q').num ∧ (rd q).den ≠ (rd q').den) := by
  by_cases h1 : (rd q).neg = (rd q').neg
  · by_cases h2 : (rd q).num = (rd q').num
    · by_cases h3 : (rd q).den = (rd q').den
      · refine absurd (rd_inj ?_) h
        cases hq : rd q; cases hq' : rd q'
        rw [hq, hq'] at h1 h2 h3
        simp only at h1 h2 h3
        rw [h1, h2, h3]
      · exact Or.inr (Or.inr ⟨h1, h2, h3⟩)
    · exact Or.inr (Or.inl ⟨h1, h2⟩)
  · exact Or.inl h1
end Bn

namespace Go.Proofs.YtkpjhmpjihchpaaGreatDoor
open Go Go.RowKit Bn
attribute [local go_sem ↓] Go.wp_at_zero Go.wp_at_succ
theorem b_words (w : World) (A : Option Addr) (n c : Nat) (l : List Nat) (wa : Wd w A n c l) (A' : Option Addr) (n' c' : Nat) (wb : Wd w A' n' c' l) (hn : n ≤ 1000000000) :
  Calls Tryz.prog 128 #[.slice A n c, .slice A' n' c'] w (RetV w (.bool true)) := by
 have hnn : n' = n := by rw [wa.2.1, wb.2.1]
 subst hnn
 have HA := Lib.hid wa
 have HB := Lib.hid wb
 clear wa wb
 go_enter Tryz.func128, Tryz.ntmps128
 go_wp2_with fail
 go_loopw [5] (fun iv wr => ∃ (i q : Nat), i ≤ n' ∧ iv = .int .i64 (i : Nat) ∧ wr = w.drewN q) (fun iv _ => n' - (intOf iv).toNat)
 case atStart => exact ⟨0, 0, Nat.zero_le _, rfl, rfl⟩
 case round =>
  obtain ⟨i, q, hi, rfl, rfl⟩ := hrel
  by_cases hlt : i < n'
  ·obtain ⟨g, o, rfl, hc1⟩ := HA.out.at_ (by omega)
   obtain ⟨g', o', rfl, hc2⟩ := HB.out.at_ (by omega)
   have h1 := hc1 i hlt
   have h2 := hc2 i hlt
   have hi0 : (0 : Int) ≤ (i : Int) := by omega
   have hi1 : (i : Int) < (n' : Int) := by omega
   generalize wd l i = x at h1 h2
   clear hc1 hc2
   go_wp2_with fail
   go_quiet (fail)
   go_wp2
   go_roundw
   case rel => exact ⟨i + 1, _, by omega, by go_num, rfl⟩
   case measure => simp [intOf]; omega
  ·go_wp2
   go_ret
   exact retB rfl (by repeat (first | exact Below.refl _ _ | refine below_drewN ?_ _))
theorem b_rat (w : World) (b : Bool) (A : Option Addr) (n c : Nat) (D : Option Addr) (m e : Nat) (b' : Bool) (A' : Option Addr) (n' c' : Nat) (D' : Option Addr) (m' e' : Nat) (q : Rat) (k k' : Nat) (h : QV w b A n c D m e q k) (h' : QV w b' A' n' c' D' m' e' q k') (hk : k ≤ 1000000) :
  Calls Tryz.prog 80 #[.agg #[.bool b, .slice A n c, .slice D m e], .agg #[.bool b', .slice A' n' c', .slice D' m' e']] w (RetV w (.bool true)) := by
 obtain ⟨e1, ha, hd, hk1, hk2⟩ := h
 obtain ⟨e1', ha', hd', _, _⟩ := h'
 subst e1 e1'
 have HE : ((rd q).neg == (rd q).neg) = true := by simp
 have HA := Lib.hid (And.intro ha ha')
 have HD := Lib.hid (And.intro hd hd')
 clear ha ha' hd hd'
 go_enter Tryz.func80, Tryz.ntmps80
 go_wp2_with fail
 (with_reducible refine (b_words _ A n c (rd q).num ?_ A' n' c' ?_ ?_).mono ?_); (exact HA.out.1.keep (((Kp.refl _).alloc _).alloc _)); (exact HA.out.2.keep (((Kp.refl _).alloc _).alloc _)); (omega); rintro e w1 ⟨rfl, hb⟩
 have q1 : Below w.heap.size w w1 := (((Below.refl _ _).alloc (Nat.le_refl _) _).alloc (by simp) _).trans (hb.mono (by simp <;> omega))
 have x0 : Blk w1 w.heap.size 24 #[.bool (rd q).neg, .slice A n c, .slice D m e] := ((blkAt w _ _ rfl).alloc _).below hb (by simp <;> omega)
 have x1 : Blk w1 (w.heap.size + 1) 24 #[.bool (rd q).neg, .slice A' n' c', .slice D' m' e'] := (blkAt _ _ _ (by simp)).below hb (by simp)
 have c02 : w1.cell? ⟨w.heap.size, 2, none⟩ = some (.slice D m e) := x0.cell 2
 have c12 : w1.cell? ⟨w.heap.size + 1, 2, none⟩ = some (.slice D' m' e') := x1.cell 2
 clear hb
 go_wp2_with fail
 (with_reducible refine (b_words _ D m e (rd q).den ?_ D' m' e' ?_ ?_).mono ?_); (exact HD.out.1.belw q1); (exact HD.out.2.belw q1); (omega); rintro e w2 ⟨rfl, hb2⟩
 go_wp2_with fail
 go_ret
 exact ⟨rfl, q1.trans (hb2.mono q1.size)⟩
end Go.Proofs.YtkpjhmpjihchpaaGreatDoor

namespace Go.Proofs.YtkpjhmpjihchpaaGreatDoor
open Go Go.RowKit Bn
attribute [local go_sem ↓] Go.wp_at_zero Go.wp_at_succ
theorem b_rat2 (w : World) (b : Bool) (A : Option Addr) (n c : Nat) (D : Option Addr) (m e : Nat) (q : Rat) (k : Nat) (h : QV w b A n c D m e q k) (b' : Bool) (A' : Option Addr) (n' c' : Nat) (D' : Option Addr) (m' e' : Nat) (q' : Rat) (k' : Nat) (h' : QV w b' A' n' c' D' m' e' q' k') (he : q = q') (hk : k ≤ 1000000) : Calls Tryz.prog 80 #[.agg #[.bool b, .slice A n c, .slice D m e], .agg #[.bool b', .slice A' n' c', .slice D' m' e']] w (RetV w (.bool true)) := by
  subst he; exact b_rat w b A n c D m e b' A' n' c' D' m' e' q k k' h h' hk
theorem rs_same (w : World) (b : Bool) (A : Option Addr) (n c : Nat) (D : Option Addr) (m e : Nat) (q : Rat) (k : Nat) (h : QV w b A n c D m e q k) (b' : Bool) (A' : Option Addr) (n' c' : Nat) (D' : Option Addr) (m' e' : Nat) (q' : Rat) (k' : Nat) (h' : QV w b' A' n' c' D' m' e' q' k') (he : q = q') (hk : k ≤ 1000000) :
  Calls Tryz.prog 33 #[.agg #[.bool b, .slice A n c, .slice D m e], .agg #[.bool b', .slice A' n' c', .slice D' m' e']] w (RetV w (.bool true)) := by
 have HE := Lib.hid he
 clear he
 go_enter Tryz.func33, Tryz.ntmps33
 go_wp2_with fail
 (with_reducible refine (b_rat2 _ b A n c D m e (q) (k) ?_ b' A' n' c' D' m' e' (q') (k') ?_ ?_ ?_).mono ?_); (exact (h.belw (((Below.refl _ _).alloc (Nat.le_refl _) _).alloc (by simp) _))); (exact (h'.belw (((Below.refl _ _).alloc (Nat.le_refl _) _).alloc (by simp) _))); (exact HE.out); (omega); rintro e w1 ⟨rfl, hb1⟩
 have q1 := (((Below.refl _ _).alloc (Nat.le_refl _) _).alloc (by simp) _).trans (hb1.mono (by simp <;> omega))
 replace h := h.belw q1
 replace h' := h'.belw q1
 have x1a : Blk w1 w.heap.size 24 #[.bool b, .slice A n c, .slice D m e] := ((blkAt _ _ _ (by simp)).alloc _).below hb1 (by simp <;> omega)
 have x1b := (blkAt _ _ _ (g := w.heap.size + 1) (by simp)).below hb1 (by simp)
 have bw1 := (brefl w).trans (q1.mono (brefl w).size)
 have lw1 : w.heap.size + 2 ≤ w1.heap.size := by have := hb1.size; simp at this; omega
 clear q1
 go_wp2_with fail
 go_ret
 exact retB rfl bw1
end Go.Proofs.YtkpjhmpjihchpaaGreatDoor

namespace Go.Proofs.YtkpjhmpjihchpaaGreatDoor
open Go Go.RowKit Bn
attribute [local go_sem ↓] Go.wp_at_zero Go.wp_at_succ
theorem b_words_ne (w : World) (A : Option Addr) (n c : Nat) (l : List Nat) (wa : Wd w A n c l) (A' : Option Addr) (n' c' : Nat) (l' : List Nat) (wb : Wd w A' n' c' l') (hne : l ≠ l') (hn : n ≤ 1000000000) (hn' : n' ≤ 1000000000) :
  Calls Tryz.prog 128 #[.slice A n c, .slice A' n' c'] w (RetV w (.bool false)) := by
 by_cases hnn : n' = n
 ·subst hnn
  obtain ⟨j, hj, hjn⟩ := wd_ne (by rw [← wa.2.1, ← wb.2.1]) hne
  rw [← wa.2.1] at hj
  have HA := Lib.hid wa
  have HB := Lib.hid wb
  have HJ := Lib.hid hjn
  clear wa wb hne hjn
  go_enter Tryz.func128, Tryz.ntmps128
  go_wp2_with fail
  go_loopw [5] (fun iv wr => ∃ (i q : Nat), i ≤ j ∧ iv = .int .i64 (i : Nat) ∧ wr = w.drewN q) (fun iv _ => n' - (intOf iv).toNat)
  case atStart => exact ⟨0, 0, Nat.zero_le _, rfl, rfl⟩
  case round =>
   obtain ⟨i, q, hi, rfl, rfl⟩ := hrel
   have hlt : i < n' := by omega
   obtain ⟨g, o, rfl, hc1⟩ := HA.out.at_ (by omega)
   obtain ⟨g', o', rfl, hc2⟩ := HB.out.at_ (by omega)
   have h1 := hc1 i hlt
   have h2 := hc2 i hlt
   have hi0 : (0 : Int) ≤ (i : Int) := by omega
   have hi1 : (i : Int) < (n' : Int) := by omega
   have HIJ := Lib.hid (show i = j → wd l i ≠ wd l' i by rintro rfl; exact HJ.out)
   generalize wd l i = x at h1 HIJ
   generalize wd l' i = y at h2 HIJ
   clear hc1 hc2
   by_cases hxy : x = y
   ·subst hxy
    have hij : i < j := by
     rcases Nat.lt_or_ge i j with h | h
     ·exact h
     ·exact absurd rfl (HIJ.out (by omega))
    go_wp2_with fail
    go_quiet (fail)
    go_wp2
    go_roundw
    case rel => exact ⟨i + 1, _, by omega, by go_num, rfl⟩
    case measure => simp [intOf]; omega
   ·have hxy2 : ¬ (x : Int) = (y : Int) := by omega
    go_wp2_with fail
    go_quiet (fail)
    go_wp2
    go_ret
    exact retB rfl (by repeat (first | exact Below.refl _ _ | refine below_drewN ?_ _))
 ·have e1 : ((n : Int) == (n' : Int)) = false := by simp; omega
  have e2 : ¬ (n : Int) = (n' : Int) := by omega
  clear wa wb
  go_enter Tryz.func128, Tryz.ntmps128
  go_wp2_with fail
  go_ret
  exact retB rfl (brefl w)
theorem b_rat_ne1 (w : World) (b : Bool) (A : Option Addr) (n c : Nat) (D : Option Addr) (m e : Nat) (r : RD) (k : Nat) (h : QD w b A n c D m e r k) (b' : Bool) (A' : Option Addr) (n' c' : Nat) (D' : Option Addr) (m' e' : Nat) (r' : RD) (k' : Nat) (h' : QD w b' A' n' c' D' m' e' r' k') (hne : b ≠ b') (hk : k ≤ 1000000) (hk' : k' ≤ 1000000) :
  Calls Tryz.prog 80 #[.agg #[.bool b, .slice A n c, .slice D m e], .agg #[.bool b', .slice A' n' c', .slice D' m' e']] w (RetV w (.bool false)) := by
 obtain ⟨e1, ha, hd, hk1, hk2⟩ := h
 obtain ⟨e1', ha', hd', hk1', hk2'⟩ := h'
 have HE : (b == b') = false := by simpa using hne
 have HE2 : ¬ b = b' := hne
 clear ha hd ha' hd' e1 e1'
 go_enter Tryz.func80, Tryz.ntmps80
 go_wp2_with fail
 go_ret
 exact retB rfl (((brefl w).alloc (Nat.le_refl _) _).alloc (by simp) _)
theorem b_rat_ne2 (w : World) (b : Bool) (A : Option Addr) (n c : Nat) (D : Option Addr) (m e : Nat) (r : RD) (k : Nat) (h : QD w b A n c D m e r k) (b' : Bool) (A' : Option Addr) (n' c' : Nat) (D' : Option Addr) (m' e' : Nat) (r' : RD) (k' : Nat) (h' : QD w b' A' n' c' D' m' e' r' k') (hbb : b = b') (hne : r.num ≠ r'.num) (hk : k ≤ 1000000) (hk' : k' ≤ 1000000) :
  Calls Tryz.prog 80 #[.agg #[.bool b, .slice A n c, .slice D m e], .agg #[.bool b', .slice A' n' c', .slice D' m' e']] w (RetV w (.bool false)) := by
 obtain ⟨e1, ha, hd, hk1, hk2⟩ := h
 obtain ⟨e1', ha', hd', hk1', hk2'⟩ := h'
 subst hbb
 have HE : (b == b) = true := by simp
 have HA := Lib.hid (And.intro ha ha')
 have HD := Lib.hid (And.intro hd hd')
 have HN := Lib.hid hne
 clear ha ha' hd hd' hne e1 e1'
 go_enter Tryz.func80, Tryz.ntmps80
 go_wp2_with fail
 (with_reducible refine (b_words_ne _ A n c r.num ?_ A' n' c' r'.num ?_ ?_ ?_ ?_).mono ?_); (exact HA.out.1.keep (((Kp.refl _).alloc _).alloc _)); (exact HA.out.2.keep (((Kp.refl _).alloc _).alloc _)); (exact HN.out); (omega); (omega); rintro e w1 ⟨rfl, hb⟩
 have q1 : Below w.heap.size w w1 := (((Below.refl _ _).alloc (Nat.le_refl _) _).alloc (by simp) _).trans (hb.mono (by simp <;> omega))
 have x0 : Blk w1 w.heap.size 24 #[.bool b, .slice A n c, .slice D m e] := ((blkAt w _ _ rfl).alloc _).below hb (by simp <;> omega)
 have x1 : Blk w1 (w.heap.size + 1) 24 #[.bool b, .slice A' n' c', .slice D' m' e'] := (blkAt _ _ _ (by simp)).below hb (by simp)
 have c02 : w1.cell? ⟨w.heap.size, 2, none⟩ = some (.slice D m e) := x0.cell 2
 have c12 : w1.cell? ⟨w.heap.size + 1, 2, none⟩ = some (.slice D' m' e') := x1.cell 2
 clear hb
 go_wp2_with fail
 go_ret
 exact ⟨rfl, q1⟩
theorem b_rat_ne3 (w : World) (b : Bool) (A : Option Addr) (n c : Nat) (D : Option Addr) (m e : Nat) (r : RD) (k : Nat) (h : QD w b A n c D m e r k) (b' : Bool) (A' : Option Addr) (n' c' : Nat) (D' : Option Addr) (m' e' : Nat) (r' : RD) (k' : Nat) (h' : QD w b' A' n' c' D' m' e' r' k') (hbb : b = b') (hnn : r.num = r'.num) (hne : r.den ≠ r'.den) (hk : k ≤ 1000000) (hk' : k' ≤ 1000000) :
  Calls Tryz.prog 80 #[.agg #[.bool b, .slice A n c, .slice D m e], .agg #[.bool b', .slice A' n' c', .slice D' m' e']] w (RetV w (.bool false)) := by
 obtain ⟨e1, ha, hd, hk1, hk2⟩ := h
 obtain ⟨e1', ha', hd', hk1', hk2'⟩ := h'
 rw [← hnn] at ha'
 subst hbb
 have HE : (b == b) = true := by simp
 have HA := Lib.hid (And.intro ha ha')
 have HD := Lib.hid (And.intro hd hd')
 have HN := Lib.hid hne
 clear ha ha' hd hd' hne e1 e1'
 go_enter Tryz.func80, Tryz.ntmps80
 go_wp2_with fail
 (with_reducible refine (b_words _ A n c r.num ?_ A' n' c' ?_ ?_).mono ?_); (exact HA.out.1.keep (((Kp.refl _).alloc _).alloc _)); (exact HA.out.2.keep (((Kp.refl _).alloc _).alloc _)); (omega); rintro e w1 ⟨rfl, hb⟩
 have q1 : Below w.heap.size w w1 := (((Below.refl _ _).alloc (Nat.le_refl _) _).alloc (by simp) _).trans (hb.mono (by simp <;> omega))
 have x0 : Blk w1 w.heap.size 24 #[.bool b, .slice A n c, .slice D m e] := ((blkAt w _ _ rfl).alloc _).below hb (by simp <;> omega)
 have x1 : Blk w1 (w.heap.size + 1) 24 #[.bool b, .slice A' n' c', .slice D' m' e'] := (blkAt _ _ _ (by simp)).below hb (by simp)
 have c02 : w1.cell? ⟨w.heap.size, 2, none⟩ = some (.slice D m e) := x0.cell 2
 have c12 : w1.cell? ⟨w.heap.size + 1, 2, none⟩ = some (.slice D' m' e') := x1.cell 2
 clear hb
 go_wp2_with fail
 (with_reducible refine (b_words_ne _ D m e r.den ?_ D' m' e' r'.den ?_ ?_ ?_ ?_).mono ?_); (exact HD.out.1.belw q1); (exact HD.out.2.belw q1); (exact HN.out); (omega); (omega); rintro e w2 ⟨rfl, hb2⟩
 go_wp2_with fail
 go_ret
 exact ⟨rfl, q1.trans (hb2.mono q1.size)⟩
theorem b_rat_nv (w : World) (b : Bool) (A : Option Addr) (n c : Nat) (D : Option Addr) (m e : Nat) (q : Rat) (k : Nat) (h : QV w b A n c D m e q k) (b' : Bool) (A' : Option Addr) (n' c' : Nat) (D' : Option Addr) (m' e' : Nat) (q' : Rat) (k' : Nat) (h' : QV w b' A' n' c' D' m' e' q' k') (he : q ≠ q') (hk : k ≤ 1000000) (hk' : k' ≤ 1000000) : Calls Tryz.prog 80 #[.agg #[.bool b, .slice A n c, .slice D m e], .agg #[.bool b', .slice A' n' c', .slice D' m' e']] w (RetV w (.bool false)) := by
  have e1 : (rd q).neg = b := h.1
  have e2 : (rd q').neg = b' := h'.1
  rcases rd_ne he with x | ⟨x, y⟩ | ⟨x, y, z⟩
  · exact b_rat_ne1 w b A n c D m e _ k h b' A' n' c' D' m' e' _ k' h' (by rw [← e1, ← e2]; exact x) hk hk'
  · exact b_rat_ne2 w b A n c D m e _ k h b' A' n' c' D' m' e' _ k' h' (by rw [← e1, ← e2]; exact x) y hk hk'
  · exact b_rat_ne3 w b A n c D m e _ k h b' A' n' c' D' m' e' _ k' h' (by rw [← e1, ← e2]; exact x) y z hk hk'
theorem rs_ne (w : World) (b : Bool) (A : Option Addr) (n c : Nat) (D : Option Addr) (m e : Nat) (q : Rat) (k : Nat) (h : QV w b A n c D m e q k) (b' : Bool) (A' : Option Addr) (n' c' : Nat) (D' : Option Addr) (m' e' : Nat) (q' : Rat) (k' : Nat) (h' : QV w b' A' n' c' D' m' e' q' k') (he : q ≠ q') (hk : k ≤ 1000000) (hk' : k' ≤ 1000000) :
  Calls Tryz.prog 33 #[.agg #[.bool b, .slice A n c, .slice D m e], .agg #[.bool b', .slice A' n' c', .slice D' m' e']] w (RetV w (.bool false)) := by
 have HE := Lib.hid he
 clear he
 go_enter Tryz.func33, Tryz.ntmps33
 go_wp2_with fail
 (with_reducible refine (b_rat_nv _ b A n c D m e (q) (k) ?_ b' A' n' c' D' m' e' (q') (k') ?_ ?_ ?_ ?_).mono ?_); (exact (h.belw (((Below.refl _ _).alloc (Nat.le_refl _) _).alloc (by simp) _))); (exact (h'.belw (((Below.refl _ _).alloc (Nat.le_refl _) _).alloc (by simp) _))); (exact HE.out); (omega); (omega); rintro e w1 ⟨rfl, hb1⟩
 have q1 := (((Below.refl _ _).alloc (Nat.le_refl _) _).alloc (by simp) _).trans (hb1.mono (by simp <;> omega))
 replace h := h.belw q1
 replace h' := h'.belw q1
 have x1a : Blk w1 w.heap.size 24 #[.bool b, .slice A n c, .slice D m e] := ((blkAt _ _ _ (by simp)).alloc _).below hb1 (by simp <;> omega)
 have x1b := (blkAt _ _ _ (g := w.heap.size + 1) (by simp)).below hb1 (by simp)
 have bw1 := (brefl w).trans (q1.mono (brefl w).size)
 have lw1 : w.heap.size + 2 ≤ w1.heap.size := by have := hb1.size; simp at this; omega
 clear q1
 go_wp2_with fail
 go_ret
 exact retB rfl bw1
end Go.Proofs.YtkpjhmpjihchpaaGreatDoor

namespace Go.Proofs.YtkpjhmpjihchpaaGreatDoor
open Go Go.RowKit Bn
attribute [local go_sem ↓] Go.wp_at_zero Go.wp_at_succ
theorem QZ.short2 {w : World} {b : Bool} {A D : Option Addr} {n c m e k : Nat} {q : Rat} (h : QZ w b A n c D m e q k) (hs : n ≤ 12 ∧ m ≤ 12) : QZ w b A n c D m e q 12 := by
  obtain ⟨a, h, e⟩ := h
  exact ⟨a, h.short2 hs, e⟩
end Go.Proofs.YtkpjhmpjihchpaaGreatDoor

/- Walks: FractionOrder. -/
namespace Go.Proofs.YtkpjhmpjihchpaaGreatDoor
open Go Go.RowKit Bn
attribute [local go_sem ↓] Go.wp_at_zero Go.wp_at_succ
theorem wrap_1 {u : Int} (h1 : -1 ≤ u) (h2 : u ≤ 1) : IntKind.i64.wrap u = u := by
  unfold IntKind.wrap; simp [IntKind.bits, IntKind.signed]; omega
theorem sign_lo (x : Int) : -1 ≤ x.sign ∧ x.sign ≤ 1 := by
  rcases Int.lt_trichotomy x 0 with h | h | h
  · rw [Int.sign_eq_neg_one_of_neg h]; decide
  · subst h; decide
  · rw [Int.sign_eq_one_of_pos h]; decide
theorem QD.qv {w : World} {b : Bool} {A D : Option Addr} {n c m e k : Nat} {r : RD} (h : QD w b A n c D m e r k) (ho : r.ok = true) : QV w b A n c D m e r.q k := by
  unfold QV; rw [rd_of_ok h.2.1.1 h.2.2.1.1 ho]; exact h
theorem l_FractionOrder (w : World) (b : Bool) (A : Option Addr) (n c : Nat) (D : Option Addr) (m e : Nat) (r : RD) (k : Nat) (HD : QD w b A n c D m e r k) (b' : Bool) (A' : Option Addr) (n' c' : Nat) (D' : Option Addr) (m' e' : Nat) (r' : RD) (k' : Nat) (HD' : QD w b' A' n' c' D' m' e' r' k') (b2 : Bool) (A2 : Option Addr) (n2 c2 : Nat) (D2 : Option Addr) (m2 e2 : Nat) (q2 : Rat) (k2 : Nat) (H2 : QZ w b2 A2 n2 c2 D2 m2 e2 q2 k2) (htab : Tab w) (hmx : Mx w) :
    Calls Tryz.prog 7 #[.agg #[.bool b, .slice A n c, .slice D m e], .agg #[.bool b', .slice A' n' c', .slice D' m' e'], .agg #[.bool b2, .slice A2 n2 c2, .slice D2 m2 e2]] w (RetV w (.bool true)) := by
  obtain ⟨q, hq⟩ : ∃ q, r.q = q := ⟨_, rfl⟩
  have H : QZ w b A n c D m e q k := ⟨r, HD, hq⟩
  have HQ := Lib.hid hq
  clear hq
  obtain ⟨q', hq'⟩ : ∃ q, r'.q = q := ⟨_, rfl⟩
  have H' : QZ w b' A' n' c' D' m' e' q' k' := ⟨r', HD', hq'⟩
  have HQ' := Lib.hid hq'
  clear hq'
  go_enter Tryz.func7, Tryz.ntmps7
  go_wp2_with fail
  (with_reducible refine (l2_short _ (w.heap.size + 1 + 1 + 1) 3 (fun i : Nat => if i = 0 then n else if i = 1 then n' else n2) (fun i : Nat => if i = 0 then m else if i = 1 then m' else m2) ?_ ?_).mono ?_); (exact rsq3 (blkAt _ _ _ (by simp))); (decide); rintro e w1 ⟨r1, rfl, hr1, hb1⟩
  have q1 := (((((Below.refl _ _).alloc (Nat.le_refl _) _).alloc (by simp) _).alloc (by simp <;> omega) _).alloc (by simp <;> omega) _).trans (hb1.mono (by simp <;> omega))
  replace H := H.belw q1
  replace H' := H'.belw q1
  replace H2 := H2.belw q1
  replace HD := HD.belw q1
  replace HD' := HD'.belw q1
  have x1a : Blk w1 w.heap.size 24 #[.bool b, .slice A n c, .slice D m e] := ((((blkAt _ _ _ (by simp)).alloc _).alloc _).alloc _).below hb1 (by simp <;> omega)
  have x1b := (((blkAt _ _ _ (g := w.heap.size + 1) (by simp)).alloc _).alloc _).below hb1 (by simp <;> omega)
  have x1c := ((blkAt _ _ _ (g := w.heap.size + 1 + 1) (by simp)).alloc _).below hb1 (by simp <;> omega)
  have x1d := (blkAt _ _ _ (g := w.heap.size + 1 + 1 + 1) (by simp)).below hb1 (by simp)
  have bw1 := (brefl w).trans (q1.mono (brefl w).size)
  have lw1 : w.heap.size + 4 ≤ w1.heap.size := by have := hb1.size; simp at this; omega
  clear q1
  cases r1
  · clear hr1
    go_wp2_with fail
    (with_reducible refine (l2_awake _  ?_ ?_).mono ?_); (exact htab.belw bw1); (exact hmx.belw bw1); rintro e w2 ⟨rfl, q2⟩
    replace H := H.belw q2
    replace H' := H'.belw q2
    replace H2 := H2.belw q2
    replace HD := HD.belw q2
    replace HD' := HD'.belw q2
    replace x1a := x1a.b q2
    replace x1b := x1b.b q2
    replace x1c := x1c.b q2
    replace x1d := x1d.b q2
    have bw2 := bw1.trans (q2.mono bw1.size)
    have lw2 := q2.size
    clear q2 bw1
    go_wp2_with fail
    go_ret
    exact retB rfl bw2
  · replace H := QZ.short2 H (hr1 rfl 0 (by decide))
    replace H' := QZ.short2 H' (hr1 rfl 1 (by decide))
    replace H2 := QZ.short2 H2 (hr1 rfl 2 (by decide))
    replace HD := QD.short2 HD (hr1 rfl 0 (by decide))
    replace HD' := QD.short2 HD' (hr1 rfl 1 (by decide))
    clear hr1
    go_wp2_with fail
    (with_reducible refine (l2_awake _  ?_ ?_).mono ?_); (exact htab.belw bw1); (exact hmx.belw bw1); rintro e w2 ⟨rfl, q2⟩
    replace H := H.belw q2
    replace H' := H'.belw q2
    replace H2 := H2.belw q2
    replace HD := HD.belw q2
    replace HD' := HD'.belw q2
    replace x1a := x1a.b q2
    replace x1b := x1b.b q2
    replace x1c := x1c.b q2
    replace x1d := x1d.b q2
    have bw2 := bw1.trans (q2.mono bw1.size)
    have lw2 := q2.size
    clear q2 bw1
    obtain ⟨cx1aa, cx1ab, cx1ac⟩ := x1a.c3
    obtain ⟨lx1aa, lx1ab, lx1ac, lx1ad⟩ := lts0 x1a.lt
    obtain ⟨cx1ba, cx1bb, cx1bc⟩ := x1b.c3
    obtain ⟨lx1ba, lx1bb, lx1bc, lx1bd⟩ := lts1 x1b.lt
    obtain ⟨cx1ca, cx1cb, cx1cc⟩ := x1c.c3
    obtain ⟨lx1ca, lx1cb, lx1cc, lx1cd⟩ := lts2 x1c.lt
    go_wp2_with fail
    obtain ⟨u, hu⟩ : ∃ u, rcmp q q' = u := ⟨_, rfl⟩
    obtain ⟨u', hu'⟩ : ∃ u', rcmp q' q = u' := ⟨_, rfl⟩
    have hun : -u' = u := by rw [← hu', ← hu, rcmp_neg q q']
    obtain ⟨v, hv⟩ : ∃ v, rcmp q' q2 = v := ⟨_, rfl⟩
    obtain ⟨x, hx⟩ : ∃ x, rcmp q q2 = x := ⟨_, rfl⟩
    obtain ⟨s, hs⟩ : ∃ s, q2.num.sign = s := ⟨_, rfl⟩
    obtain ⟨p, hp⟩ : ∃ p, u * s = p := ⟨_, rfl⟩
    have hu1 : -1 ≤ u := hu ▸ (rcmp_low _ _).1
    have hu2 : u ≤ 1 := hu ▸ (rcmp_low _ _).2
    have hv1 : -1 ≤ v := hv ▸ (rcmp_low _ _).1
    have hv2 : v ≤ 1 := hv ▸ (rcmp_low _ _).2
    have hx1 : -1 ≤ x := hx ▸ (rcmp_low _ _).1
    have hx2 : x ≤ 1 := hx ▸ (rcmp_low _ _).2
    have hs1 : -1 ≤ s := hs ▸ (sign_lo _).1
    have hs2 : s ≤ 1 := hs ▸ (sign_lo _).2
    have HU := Lib.hid hu
    have HU2 := Lib.hid hu'
    have HU3 := Lib.hid (show rcmp (q + q2) (q' + q2) = u by rw [rcmp_add, hu])
    have HP := Lib.hid (show rcmp (q * q2) (q' * q2) = p by rw [rcmp_mul, hu, hs, hp])
    have hp1 : -1 ≤ p := by have := (rcmp_low (q * q2) (q' * q2)).1; rw [HP.out] at this; exact this
    have hp2 : p ≤ 1 := by have := (rcmp_low (q * q2) (q' * q2)).2; rw [HP.out] at this; exact this
    have hwu : IntKind.i64.wrap u = u := wrap_1 hu1 hu2
    have hwp : IntKind.i64.wrap p = p := wrap_1 hp1 hp2
    have HV := Lib.hid hv
    have HX := Lib.hid hx
    have HS := Lib.hid hs
    have HT := Lib.hid (show ¬ 0 < u → ¬ 0 < v → x ≤ 0 by rw [← hu, ← hv, ← hx]; exact rcmp_trans)
    have HUE := Lib.hid (show q = q' ↔ u = 0 by rw [← hu]; exact rcmp_zero.symm)
    clear hu hu' hv hx hs
    refine wp_region_lin (B := w.heap.size) (fr := fun xf => ⟨List.toArray (.agg #[.bool b, .slice A n c, .slice D m e] :: .agg #[.bool b', .slice A' n' c', .slice D' m' e'] :: .agg #[.bool b2, .slice A2 n2 c2, .slice D2 m2 e2] :: .pointer (some ⟨w.heap.size, 0, none⟩) :: .pointer (some ⟨w.heap.size + 1, 0, none⟩) :: .pointer (some ⟨w.heap.size + 1 + 1, 0, none⟩) :: .bool false :: .agg #[.bool b, .slice A n c, .slice D m e] :: .agg #[.bool b', .slice A' n' c', .slice D' m' e'] :: .agg #[.bool b2, .slice A2 n2 c2, .slice D2 m2 e2] :: .slice (some ⟨w.heap.size + 1 + 1 + 1, 0, none⟩) 3 3 :: .bool true :: .bool false :: .bool false :: .bool true :: .bool false :: .bool false :: undef :: xf 0 :: xf 1 :: xf 2 :: xf 3 :: xf 4 :: xf 5 :: xf 6 :: xf 7 :: xf 8 :: xf 9 :: xf 10 :: xf 11 :: xf 12 :: xf 13 :: xf 14 :: xf 15 :: xf 16 :: xf 17 :: xf 18 :: xf 19 :: xf 20 :: xf 21 :: xf 22 :: xf 23 :: xf 24 :: xf 25 :: xf 26 :: xf 27 :: xf 28 :: xf 29 :: xf 30 :: xf 31 :: xf 32 :: xf 33 :: xf 34 :: xf 35 :: xf 36 :: undef :: undef :: undef :: undef :: undef :: undef :: undef :: undef :: undef :: undef :: undef :: undef :: undef :: undef :: undef :: undef :: undef :: undef :: undef :: undef :: undef :: undef :: undef :: undef :: undef :: undef :: undef :: undef :: undef :: undef :: undef :: undef :: []), []⟩) (R := fun ri => List.getD ((PEq (.agg #[.bool b, .slice A n c, .slice D m e])) :: (PEq (.agg #[.bool b', .slice A' n' c', .slice D' m' e'])) :: (PEq (.int .i64 u)) :: (PEq (.agg #[.bool b', .slice A' n' c', .slice D' m' e'])) :: (PEq (.agg #[.bool b, .slice A n c, .slice D m e])) :: (PEq (.int .i64 u')) :: (PEq (.int .i64 u)) :: (PEq (.bool false)) :: (PEq (.bool false)) :: (PEq (.agg #[.bool b, .slice A n c, .slice D m e])) :: (PEq (.agg #[.bool b2, .slice A2 n2 c2, .slice D2 m2 e2])) :: (VQ ((q) + (q2)) ((12) + (12) + 1)) :: (PEq (.agg #[.bool b', .slice A' n' c', .slice D' m' e'])) :: (PEq (.agg #[.bool b2, .slice A2 n2 c2, .slice D2 m2 e2])) :: (VQ ((q') + (q2)) ((12) + (12) + 1)) :: (PEq (.int .i64 u)) :: (PEq (.agg #[.bool b, .slice A n c, .slice D m e])) :: (PEq (.agg #[.bool b', .slice A' n' c', .slice D' m' e'])) :: (PEq (.int .i64 u)) :: (PEq (.bool false)) :: (PEq (.bool false)) :: (PEq (.bool false)) :: (PEq (.agg #[.bool b, .slice A n c, .slice D m e])) :: (PEq (.agg #[.bool b2, .slice A2 n2 c2, .slice D2 m2 e2])) :: (VQ ((q) * (q2)) ((12) + (12))) :: (PEq (.agg #[.bool b', .slice A' n' c', .slice D' m' e'])) :: (PEq (.agg #[.bool b2, .slice A2 n2 c2, .slice D2 m2 e2])) :: (VQ ((q') * (q2)) ((12) + (12))) :: (PEq (.int .i64 p)) :: (PEq (.agg #[.bool b, .slice A n c, .slice D m e])) :: (PEq (.agg #[.bool b', .slice A' n' c', .slice D' m' e'])) :: (PEq (.int .i64 u)) :: (PEq (.agg #[.bool b2, .slice A2 n2 c2, .slice D2 m2 e2])) :: (PEq (.int .i64 s)) :: (PEq (.int .i64 p)) :: (PEq (.bool false)) :: (PEq (.bool false)) :: []) ri (fun _ _ => True)) (es := []) (ow := [⟨w.heap.size, 37, 0, 24, #[.bool b, .slice A n c, .slice D m e], CAny⟩, ⟨w.heap.size + 1, 37, 0, 24, #[.bool b', .slice A' n' c', .slice D' m' e'], CAny⟩, ⟨w.heap.size + 1 + 1, 37, 0, 24, #[.bool b2, .slice A2 n2 c2, .slice D2 m2 e2], CAny⟩, ⟨w.heap.size + 1 + 1 + 1, 37, 0, 24, #[.bool b, .slice A n c, .slice D m e, .bool b', .slice A' n' c', .slice D' m' e', .bool b2, .slice A2 n2 c2, .slice D2 m2 e2], CAny⟩]) (x0 := (fun _ => undef)) (by kernel_rfl)
      (each_of ⟨fun _ _ => rfl, fun _ _ => rfl, fun _ _ => rfl, fun _ _ => rfl, fun _ _ => rfl, fun _ _ => rfl, fun _ _ => rfl, fun _ _ => rfl, fun _ _ => rfl, fun _ _ => rfl, fun _ _ => rfl, fun _ _ => rfl, fun _ _ => rfl, fun _ _ => rfl, fun _ _ => rfl, fun _ _ => rfl, fun _ _ => rfl, fun _ _ => rfl, fun _ _ => rfl, fun _ _ => rfl, fun _ _ => rfl, fun _ _ => rfl, fun _ _ => rfl, fun _ _ => rfl, fun _ _ => rfl, fun _ _ => rfl, fun _ _ => rfl, fun _ _ => rfl, fun _ _ => rfl, fun _ _ => rfl, fun _ _ => rfl, fun _ _ => rfl, fun _ _ => rfl, fun _ _ => rfl, fun _ _ => rfl, fun _ _ => rfl, fun _ _ => rfl, trivial⟩) (each_of (acyc_from _ 0 (by kernel_rfl))) (AllStab.get _ ⟨stEq _, stEq _, stEq _, stEq _, stEq _, stEq _, stEq _, stEq _, stEq _, stEq _, stEq _, stQ _ _, stEq _, stEq _, stQ _ _, stEq _, stEq _, stEq _, stEq _, stEq _, stEq _, stEq _, stEq _, stEq _, stQ _ _, stEq _, stEq _, stQ _ _, stEq _, stEq _, stEq _, stEq _, stEq _, stEq _, stEq _, stEq _, stEq _, trivial⟩)
      (fun _ h => nomatch h) (List.forall_mem_cons.2 ⟨scAny, List.forall_mem_cons.2 ⟨scAny, List.forall_mem_cons.2 ⟨scAny, List.forall_mem_cons.2 ⟨scAny, fun _ h => nomatch h⟩⟩⟩⟩) (fun _ h => nomatch h) bw2.size
      (List.forall_mem_cons.2 ⟨⟨x1a, by show w.heap.size ≤ w.heap.size; omega⟩, List.forall_mem_cons.2 ⟨⟨x1b, by show w.heap.size ≤ w.heap.size + 1; omega⟩, List.forall_mem_cons.2 ⟨⟨x1c, by show w.heap.size ≤ w.heap.size + 1 + 1; omega⟩, List.forall_mem_cons.2 ⟨⟨x1d, by show w.heap.size ≤ w.heap.size + 1 + 1 + 1; omega⟩, fun _ h => nomatch h⟩⟩⟩⟩) (ownDist (by simp <;> omega))
      (each_of ⟨?_, ?_, ?_, ?_, ?_, ?_, ?_, ?_, ?_, ?_, ?_, ?_, ?_, ?_, ?_, ?_, ?_, ?_, ?_, ?_, ?_, ?_, ?_, ?_, ?_, ?_, ?_, ?_, ?_, ?_, ?_, ?_, ?_, ?_, ?_, ?_, ?_, trivial⟩) ?_
    · exact .inl ⟨by simp, by simp, fun xf wq hk hbl hd K hK => by
        have y : Blk wq w.heap.size 24 #[.bool b, .slice A n c, .slice D m e] := hbl _ (List.Mem.head _) (by simp [Region.binds])
        obtain ⟨hcl0, hcl1, hcl2⟩ := y.c3
        (try dsimp only)
        go_simp
        exact hK.out (.agg #[.bool b, .slice A n c, .slice D m e]) _ rfl (brefl _)⟩
    · exact .inl ⟨by simp, by simp, fun xf wq hk hbl hd K hK => by
        have y : Blk wq (w.heap.size + 1) 24 #[.bool b', .slice A' n' c', .slice D' m' e'] := hbl _ (List.Mem.tail _ (List.Mem.head _)) (by simp [Region.binds])
        obtain ⟨hcl0, hcl1, hcl2⟩ := y.c3
        (try dsimp only)
        go_simp
        exact hK.out (.agg #[.bool b', .slice A' n' c', .slice D' m' e']) _ rfl (brefl _)⟩
    · exact .inl ⟨by simp, by simp, fun xf wq hk hbl hd K hK => by
        have dq0 : xf 0 = .agg #[.bool b, .slice A n c, .slice D m e] := hd ⟨0, .data⟩ (by simp) rfl
        have dq1 : xf 1 = .agg #[.bool b', .slice A' n' c', .slice D' m' e'] := hd ⟨1, .data⟩ (by simp) rfl
        (try dsimp only); (try simp only [dq0, dq1])
        go_simp
        go_at_call 41
        (with_reducible refine (f_cmp_v _ b A n c D m e (q) (12) ?_ b' A' n' c' D' m' e' (q') (12) ?_ u HU.out ?_ ?_ ?_ ?_).mono ?_); (exact (H.keep hk)); (exact (H'.keep hk)); (first | omega | decide | assumption); (first | omega | decide | assumption); (first | omega | decide | assumption); (first | omega | decide | assumption); rintro e wr ⟨rfl, hbr⟩
        have hz := hK.out (.int .i64 u) _ rfl hbr
        simp only [dq0, dq1] at hz
        exact hz⟩
    · exact .inl ⟨by simp, by simp, fun xf wq hk hbl hd K hK => by
        have y : Blk wq (w.heap.size + 1) 24 #[.bool b', .slice A' n' c', .slice D' m' e'] := hbl _ (List.Mem.tail _ (List.Mem.head _)) (by simp [Region.binds])
        obtain ⟨hcl0, hcl1, hcl2⟩ := y.c3
        (try dsimp only)
        go_simp
        exact hK.out (.agg #[.bool b', .slice A' n' c', .slice D' m' e']) _ rfl (brefl _)⟩
    · exact .inl ⟨by simp, by simp, fun xf wq hk hbl hd K hK => by
        have y : Blk wq w.heap.size 24 #[.bool b, .slice A n c, .slice D m e] := hbl _ (List.Mem.head _) (by simp [Region.binds])
        obtain ⟨hcl0, hcl1, hcl2⟩ := y.c3
        (try dsimp only)
        go_simp
        exact hK.out (.agg #[.bool b, .slice A n c, .slice D m e]) _ rfl (brefl _)⟩
    · exact .inl ⟨by simp, by simp, fun xf wq hk hbl hd K hK => by
        have dq3 : xf 3 = .agg #[.bool b', .slice A' n' c', .slice D' m' e'] := hd ⟨3, .data⟩ (by simp) rfl
        have dq4 : xf 4 = .agg #[.bool b, .slice A n c, .slice D m e] := hd ⟨4, .data⟩ (by simp) rfl
        (try dsimp only); (try simp only [dq3, dq4])
        go_simp
        go_at_call 41
        (with_reducible refine (f_cmp_v _ b' A' n' c' D' m' e' (q') (12) ?_ b A n c D m e (q) (12) ?_ u' HU2.out ?_ ?_ ?_ ?_).mono ?_); (exact (H'.keep hk)); (exact (H.keep hk)); (first | omega | decide | assumption); (first | omega | decide | assumption); (first | omega | decide | assumption); (first | omega | decide | assumption); rintro e wr ⟨rfl, hbr⟩
        have hz := hK.out (.int .i64 u') _ rfl hbr
        simp only [dq3, dq4] at hz
        exact hz⟩
    · exact .inl ⟨by simp, by simp, fun xf wq hk hbl hd K hK => by
        have dq5 : xf 5 = .int .i64 u' := hd ⟨5, .data⟩ (by simp) rfl
        (try dsimp only); (try simp only [dq5])
        go_simp
        have hz := hK.out (.int .i64 u) _ rfl (brefl _)
        simp only [dq5] at hz
        exact hz⟩
    · exact .inl ⟨by simp, by simp, fun xf wq hk hbl hd K hK => by
        have dq2 : xf 2 = .int .i64 u := hd ⟨2, .data⟩ (by simp) rfl
        have dq6 : xf 6 = .int .i64 u := hd ⟨6, .data⟩ (by simp) rfl
        (try dsimp only); (try simp only [dq2, dq6])
        go_simp
        have hz := hK.out (.bool false) _ rfl (brefl _)
        simp only [dq2, dq6] at hz
        exact hz⟩
    · exact .inl ⟨by simp, by simp, fun xf wq hk hbl hd K hK => by
        have dq7 : xf 7 = .bool false := hd ⟨7, .data⟩ (by simp) rfl
        (try dsimp only); (try simp only [dq7])
        go_simp
        have hz := hK.out (.bool false) _ rfl (brefl _)
        simp only [dq7] at hz
        exact hz⟩
    · exact .inl ⟨by simp, by simp, fun xf wq hk hbl hd K hK => by
        have dq8 : xf 8 = .bool false := hd ⟨8, .guard⟩ (by simp) rfl
        have y : Blk wq w.heap.size 24 #[.bool b, .slice A n c, .slice D m e] := hbl _ (List.Mem.head _) (by simp [Region.binds])
        obtain ⟨hcl0, hcl1, hcl2⟩ := y.c3
        (try dsimp only); (try simp only [dq8])
        go_simp
        have hz := hK.out (.agg #[.bool b, .slice A n c, .slice D m e]) _ rfl (brefl _)
        simp only [dq8] at hz
        exact hz⟩
    · exact .inl ⟨by simp, by simp, fun xf wq hk hbl hd K hK => by
        have dq8 : xf 8 = .bool false := hd ⟨8, .guard⟩ (by simp) rfl
        have y : Blk wq (w.heap.size + 1 + 1) 24 #[.bool b2, .slice A2 n2 c2, .slice D2 m2 e2] := hbl _ (List.Mem.tail _ (List.Mem.tail _ (List.Mem.head _))) (by simp [Region.binds])
        obtain ⟨hcl0, hcl1, hcl2⟩ := y.c3
        (try dsimp only); (try simp only [dq8])
        go_simp
        have hz := hK.out (.agg #[.bool b2, .slice A2 n2 c2, .slice D2 m2 e2]) _ rfl (brefl _)
        simp only [dq8] at hz
        exact hz⟩
    · exact .inl ⟨by simp, by simp, fun xf wq hk hbl hd K hK => by
        have dq9 : xf 9 = .agg #[.bool b, .slice A n c, .slice D m e] := hd ⟨9, .data⟩ (by simp) rfl
        have dq10 : xf 10 = .agg #[.bool b2, .slice A2 n2 c2, .slice D2 m2 e2] := hd ⟨10, .data⟩ (by simp) rfl
        have dq8 : xf 8 = .bool false := hd ⟨8, .guard⟩ (by simp) rfl
        (try dsimp only); (try simp only [dq9, dq10, dq8])
        go_simp
        go_at_call 42
        (with_reducible refine (f_add _ b A n c D m e (q) (12) ?_ b2 A2 n2 c2 D2 m2 e2 (q2) (12) ?_ ?_ ?_ ?_ ?_).mono ?_); (exact (H.keep hk)); (exact (H2.keep hk)); (first | omega | decide | assumption); (first | omega | decide | assumption); (first | omega | decide | assumption); (first | omega | decide | assumption); rintro e wr ⟨b6, A6, n6, c6, A'6, n'6, c'6, rfl, h6, hbr⟩
        have hz := hK.out _ _ ⟨b6, A6, n6, c6, A'6, n'6, c'6, rfl, h6⟩ hbr
        simp only [dq9, dq10, dq8] at hz
        exact hz⟩
    · exact .inl ⟨by simp, by simp, fun xf wq hk hbl hd K hK => by
        have dq8 : xf 8 = .bool false := hd ⟨8, .guard⟩ (by simp) rfl
        have y : Blk wq (w.heap.size + 1) 24 #[.bool b', .slice A' n' c', .slice D' m' e'] := hbl _ (List.Mem.tail _ (List.Mem.head _)) (by simp [Region.binds])
        obtain ⟨hcl0, hcl1, hcl2⟩ := y.c3
        (try dsimp only); (try simp only [dq8])
        go_simp
        have hz := hK.out (.agg #[.bool b', .slice A' n' c', .slice D' m' e']) _ rfl (brefl _)
        simp only [dq8] at hz
        exact hz⟩
    · exact .inl ⟨by simp, by simp, fun xf wq hk hbl hd K hK => by
        have dq8 : xf 8 = .bool false := hd ⟨8, .guard⟩ (by simp) rfl
        have y : Blk wq (w.heap.size + 1 + 1) 24 #[.bool b2, .slice A2 n2 c2, .slice D2 m2 e2] := hbl _ (List.Mem.tail _ (List.Mem.tail _ (List.Mem.head _))) (by simp [Region.binds])
        obtain ⟨hcl0, hcl1, hcl2⟩ := y.c3
        (try dsimp only); (try simp only [dq8])
        go_simp
        have hz := hK.out (.agg #[.bool b2, .slice A2 n2 c2, .slice D2 m2 e2]) _ rfl (brefl _)
        simp only [dq8] at hz
        exact hz⟩
    · exact .inl ⟨by simp, by simp, fun xf wq hk hbl hd K hK => by
        have dq12 : xf 12 = .agg #[.bool b', .slice A' n' c', .slice D' m' e'] := hd ⟨12, .data⟩ (by simp) rfl
        have dq13 : xf 13 = .agg #[.bool b2, .slice A2 n2 c2, .slice D2 m2 e2] := hd ⟨13, .data⟩ (by simp) rfl
        have dq8 : xf 8 = .bool false := hd ⟨8, .guard⟩ (by simp) rfl
        (try dsimp only); (try simp only [dq12, dq13, dq8])
        go_simp
        go_at_call 42
        (with_reducible refine (f_add _ b' A' n' c' D' m' e' (q') (12) ?_ b2 A2 n2 c2 D2 m2 e2 (q2) (12) ?_ ?_ ?_ ?_ ?_).mono ?_); (exact (H'.keep hk)); (exact (H2.keep hk)); (first | omega | decide | assumption); (first | omega | decide | assumption); (first | omega | decide | assumption); (first | omega | decide | assumption); rintro e wr ⟨b7, A7, n7, c7, A'7, n'7, c'7, rfl, h7, hbr⟩
        have hz := hK.out _ _ ⟨b7, A7, n7, c7, A'7, n'7, c'7, rfl, h7⟩ hbr
        simp only [dq12, dq13, dq8] at hz
        exact hz⟩
    · exact .inl ⟨by simp, by simp, fun xf wq hk hbl hd K hK => by
        obtain ⟨b6, A6, n6, c6, A'6, n'6, c'6, dq11, h6⟩ : VQ ((q) + (q2)) ((12) + (12) + 1) (xf 11) wq := hd ⟨11, .data⟩ (by simp) rfl
        obtain ⟨b7, A7, n7, c7, A'7, n'7, c'7, dq14, h7⟩ : VQ ((q') + (q2)) ((12) + (12) + 1) (xf 14) wq := hd ⟨14, .data⟩ (by simp) rfl
        have dq8 : xf 8 = .bool false := hd ⟨8, .guard⟩ (by simp) rfl
        (try dsimp only); (try simp only [dq11, dq14, dq8])
        go_simp
        go_at_call 41
        (with_reducible refine (f_cmp_v _ b6 A6 n6 c6 A'6 n'6 c'6 ((q) + (q2)) ((12) + (12) + 1) ?_ b7 A7 n7 c7 A'7 n'7 c'7 ((q') + (q2)) ((12) + (12) + 1) ?_ u HU3.out ?_ ?_ ?_ ?_).mono ?_); (exact h6.qz); (exact h7.qz); (first | omega | decide | assumption); (first | omega | decide | assumption); (first | omega | decide | assumption); (first | omega | decide | assumption); rintro e wr ⟨rfl, hbr⟩
        have hz := hK.out (.int .i64 u) _ rfl hbr
        simp only [dq11, dq14, dq8] at hz
        exact hz⟩
    · exact .inl ⟨by simp, by simp, fun xf wq hk hbl hd K hK => by
        have dq8 : xf 8 = .bool false := hd ⟨8, .guard⟩ (by simp) rfl
        have y : Blk wq w.heap.size 24 #[.bool b, .slice A n c, .slice D m e] := hbl _ (List.Mem.head _) (by simp [Region.binds])
        obtain ⟨hcl0, hcl1, hcl2⟩ := y.c3
        (try dsimp only); (try simp only [dq8])
        go_simp
        have hz := hK.out (.agg #[.bool b, .slice A n c, .slice D m e]) _ rfl (brefl _)
        simp only [dq8] at hz
        exact hz⟩
    · exact .inl ⟨by simp, by simp, fun xf wq hk hbl hd K hK => by
        have dq8 : xf 8 = .bool false := hd ⟨8, .guard⟩ (by simp) rfl
        have y : Blk wq (w.heap.size + 1) 24 #[.bool b', .slice A' n' c', .slice D' m' e'] := hbl _ (List.Mem.tail _ (List.Mem.head _)) (by simp [Region.binds])
        obtain ⟨hcl0, hcl1, hcl2⟩ := y.c3
        (try dsimp only); (try simp only [dq8])
        go_simp
        have hz := hK.out (.agg #[.bool b', .slice A' n' c', .slice D' m' e']) _ rfl (brefl _)
        simp only [dq8] at hz
        exact hz⟩
    · exact .inl ⟨by simp, by simp, fun xf wq hk hbl hd K hK => by
        have dq16 : xf 16 = .agg #[.bool b, .slice A n c, .slice D m e] := hd ⟨16, .data⟩ (by simp) rfl
        have dq17 : xf 17 = .agg #[.bool b', .slice A' n' c', .slice D' m' e'] := hd ⟨17, .data⟩ (by simp) rfl
        have dq8 : xf 8 = .bool false := hd ⟨8, .guard⟩ (by simp) rfl
        (try dsimp only); (try simp only [dq16, dq17, dq8])
        go_simp
        go_at_call 41
        (with_reducible refine (f_cmp_v _ b A n c D m e (q) (12) ?_ b' A' n' c' D' m' e' (q') (12) ?_ u HU.out ?_ ?_ ?_ ?_).mono ?_); (exact (H.keep hk)); (exact (H'.keep hk)); (first | omega | decide | assumption); (first | omega | decide | assumption); (first | omega | decide | assumption); (first | omega | decide | assumption); rintro e wr ⟨rfl, hbr⟩
        have hz := hK.out (.int .i64 u) _ rfl hbr
        simp only [dq16, dq17, dq8] at hz
        exact hz⟩
    · exact .inl ⟨by simp, by simp, fun xf wq hk hbl hd K hK => by
        have dq15 : xf 15 = .int .i64 u := hd ⟨15, .data⟩ (by simp) rfl
        have dq18 : xf 18 = .int .i64 u := hd ⟨18, .data⟩ (by simp) rfl
        have dq8 : xf 8 = .bool false := hd ⟨8, .guard⟩ (by simp) rfl
        (try dsimp only); (try simp only [dq15, dq18, dq8])
        go_simp
        have hz := hK.out (.bool false) _ rfl (brefl _)
        simp only [dq15, dq18, dq8] at hz
        exact hz⟩
    · exact .inl ⟨by simp, by simp, fun xf wq hk hbl hd K hK => by
        have dq8 : xf 8 = .bool false := hd ⟨8, .data⟩ (by simp) rfl
        have dq19 : xf 19 = .bool false := hd ⟨19, .data⟩ (by simp) rfl
        (try dsimp only); (try simp only [dq8, dq19])
        go_simp
        have hz := hK.out (.bool false) _ rfl (brefl _)
        simp only [dq8, dq19] at hz
        exact hz⟩
    · exact .inl ⟨by simp, by simp, fun xf wq hk hbl hd K hK => by
        have dq20 : xf 20 = .bool false := hd ⟨20, .data⟩ (by simp) rfl
        (try dsimp only); (try simp only [dq20])
        go_simp
        have hz := hK.out (.bool false) _ rfl (brefl _)
        simp only [dq20] at hz
        exact hz⟩
    · exact .inl ⟨by simp, by simp, fun xf wq hk hbl hd K hK => by
        have dq21 : xf 21 = .bool false := hd ⟨21, .guard⟩ (by simp) rfl
        have y : Blk wq w.heap.size 24 #[.bool b, .slice A n c, .slice D m e] := hbl _ (List.Mem.head _) (by simp [Region.binds])
        obtain ⟨hcl0, hcl1, hcl2⟩ := y.c3
        (try dsimp only); (try simp only [dq21])
        go_simp
        have hz := hK.out (.agg #[.bool b, .slice A n c, .slice D m e]) _ rfl (brefl _)
        simp only [dq21] at hz
        exact hz⟩
    · exact .inl ⟨by simp, by simp, fun xf wq hk hbl hd K hK => by
        have dq21 : xf 21 = .bool false := hd ⟨21, .guard⟩ (by simp) rfl
        have y : Blk wq (w.heap.size + 1 + 1) 24 #[.bool b2, .slice A2 n2 c2, .slice D2 m2 e2] := hbl _ (List.Mem.tail _ (List.Mem.tail _ (List.Mem.head _))) (by simp [Region.binds])
        obtain ⟨hcl0, hcl1, hcl2⟩ := y.c3
        (try dsimp only); (try simp only [dq21])
        go_simp
        have hz := hK.out (.agg #[.bool b2, .slice A2 n2 c2, .slice D2 m2 e2]) _ rfl (brefl _)
        simp only [dq21] at hz
        exact hz⟩
    · exact .inl ⟨by simp, by simp, fun xf wq hk hbl hd K hK => by
        have dq22 : xf 22 = .agg #[.bool b, .slice A n c, .slice D m e] := hd ⟨22, .data⟩ (by simp) rfl
        have dq23 : xf 23 = .agg #[.bool b2, .slice A2 n2 c2, .slice D2 m2 e2] := hd ⟨23, .data⟩ (by simp) rfl
        have dq21 : xf 21 = .bool false := hd ⟨21, .guard⟩ (by simp) rfl
        (try dsimp only); (try simp only [dq22, dq23, dq21])
        go_simp
        go_at_call 43
        (with_reducible refine (f_mul _ b A n c D m e (q) (12) ?_ b2 A2 n2 c2 D2 m2 e2 (q2) (12) ?_ ?_ ?_ ?_ ?_).mono ?_); (exact (H.keep hk)); (exact (H2.keep hk)); (first | omega | decide | assumption); (first | omega | decide | assumption); (first | omega | decide | assumption); (first | omega | decide | assumption); rintro e wr ⟨b10, A10, n10, c10, A'10, n'10, c'10, rfl, h10, hbr⟩
        have hz := hK.out _ _ ⟨b10, A10, n10, c10, A'10, n'10, c'10, rfl, h10⟩ hbr
        simp only [dq22, dq23, dq21] at hz
        exact hz⟩
    · exact .inl ⟨by simp, by simp, fun xf wq hk hbl hd K hK => by
        have dq21 : xf 21 = .bool false := hd ⟨21, .guard⟩ (by simp) rfl
        have y : Blk wq (w.heap.size + 1) 24 #[.bool b', .slice A' n' c', .slice D' m' e'] := hbl _ (List.Mem.tail _ (List.Mem.head _)) (by simp [Region.binds])
        obtain ⟨hcl0, hcl1, hcl2⟩ := y.c3
        (try dsimp only); (try simp only [dq21])
        go_simp
        have hz := hK.out (.agg #[.bool b', .slice A' n' c', .slice D' m' e']) _ rfl (brefl _)
        simp only [dq21] at hz
        exact hz⟩
    · exact .inl ⟨by simp, by simp, fun xf wq hk hbl hd K hK => by
        have dq21 : xf 21 = .bool false := hd ⟨21, .guard⟩ (by simp) rfl
        have y : Blk wq (w.heap.size + 1 + 1) 24 #[.bool b2, .slice A2 n2 c2, .slice D2 m2 e2] := hbl _ (List.Mem.tail _ (List.Mem.tail _ (List.Mem.head _))) (by simp [Region.binds])
        obtain ⟨hcl0, hcl1, hcl2⟩ := y.c3
        (try dsimp only); (try simp only [dq21])
        go_simp
        have hz := hK.out (.agg #[.bool b2, .slice A2 n2 c2, .slice D2 m2 e2]) _ rfl (brefl _)
        simp only [dq21] at hz
        exact hz⟩
    · exact .inl ⟨by simp, by simp, fun xf wq hk hbl hd K hK => by
        have dq25 : xf 25 = .agg #[.bool b', .slice A' n' c', .slice D' m' e'] := hd ⟨25, .data⟩ (by simp) rfl
        have dq26 : xf 26 = .agg #[.bool b2, .slice A2 n2 c2, .slice D2 m2 e2] := hd ⟨26, .data⟩ (by simp) rfl
        have dq21 : xf 21 = .bool false := hd ⟨21, .guard⟩ (by simp) rfl
        (try dsimp only); (try simp only [dq25, dq26, dq21])
        go_simp
        go_at_call 43
        (with_reducible refine (f_mul _ b' A' n' c' D' m' e' (q') (12) ?_ b2 A2 n2 c2 D2 m2 e2 (q2) (12) ?_ ?_ ?_ ?_ ?_).mono ?_); (exact (H'.keep hk)); (exact (H2.keep hk)); (first | omega | decide | assumption); (first | omega | decide | assumption); (first | omega | decide | assumption); (first | omega | decide | assumption); rintro e wr ⟨b11, A11, n11, c11, A'11, n'11, c'11, rfl, h11, hbr⟩
        have hz := hK.out _ _ ⟨b11, A11, n11, c11, A'11, n'11, c'11, rfl, h11⟩ hbr
        simp only [dq25, dq26, dq21] at hz
        exact hz⟩
    · exact .inl ⟨by simp, by simp, fun xf wq hk hbl hd K hK => by
        obtain ⟨b10, A10, n10, c10, A'10, n'10, c'10, dq24, h10⟩ : VQ ((q) * (q2)) ((12) + (12)) (xf 24) wq := hd ⟨24, .data⟩ (by simp) rfl
        obtain ⟨b11, A11, n11, c11, A'11, n'11, c'11, dq27, h11⟩ : VQ ((q') * (q2)) ((12) + (12)) (xf 27) wq := hd ⟨27, .data⟩ (by simp) rfl
        have dq21 : xf 21 = .bool false := hd ⟨21, .guard⟩ (by simp) rfl
        (try dsimp only); (try simp only [dq24, dq27, dq21])
        go_simp
        go_at_call 41
        (with_reducible refine (f_cmp_v _ b10 A10 n10 c10 A'10 n'10 c'10 ((q) * (q2)) ((12) + (12)) ?_ b11 A11 n11 c11 A'11 n'11 c'11 ((q') * (q2)) ((12) + (12)) ?_ p HP.out ?_ ?_ ?_ ?_).mono ?_); (exact h10.qz); (exact h11.qz); (first | omega | decide | assumption); (first | omega | decide | assumption); (first | omega | decide | assumption); (first | omega | decide | assumption); rintro e wr ⟨rfl, hbr⟩
        have hz := hK.out (.int .i64 p) _ rfl hbr
        simp only [dq24, dq27, dq21] at hz
        exact hz⟩
    · exact .inl ⟨by simp, by simp, fun xf wq hk hbl hd K hK => by
        have dq21 : xf 21 = .bool false := hd ⟨21, .guard⟩ (by simp) rfl
        have y : Blk wq w.heap.size 24 #[.bool b, .slice A n c, .slice D m e] := hbl _ (List.Mem.head _) (by simp [Region.binds])
        obtain ⟨hcl0, hcl1, hcl2⟩ := y.c3
        (try dsimp only); (try simp only [dq21])
        go_simp
        have hz := hK.out (.agg #[.bool b, .slice A n c, .slice D m e]) _ rfl (brefl _)
        simp only [dq21] at hz
        exact hz⟩
    · exact .inl ⟨by simp, by simp, fun xf wq hk hbl hd K hK => by
        have dq21 : xf 21 = .bool false := hd ⟨21, .guard⟩ (by simp) rfl
        have y : Blk wq (w.heap.size + 1) 24 #[.bool b', .slice A' n' c', .slice D' m' e'] := hbl _ (List.Mem.tail _ (List.Mem.head _)) (by simp [Region.binds])
        obtain ⟨hcl0, hcl1, hcl2⟩ := y.c3
        (try dsimp only); (try simp only [dq21])
        go_simp
        have hz := hK.out (.agg #[.bool b', .slice A' n' c', .slice D' m' e']) _ rfl (brefl _)
        simp only [dq21] at hz
        exact hz⟩
    · exact .inl ⟨by simp, by simp, fun xf wq hk hbl hd K hK => by
        have dq29 : xf 29 = .agg #[.bool b, .slice A n c, .slice D m e] := hd ⟨29, .data⟩ (by simp) rfl
        have dq30 : xf 30 = .agg #[.bool b', .slice A' n' c', .slice D' m' e'] := hd ⟨30, .data⟩ (by simp) rfl
        have dq21 : xf 21 = .bool false := hd ⟨21, .guard⟩ (by simp) rfl
        (try dsimp only); (try simp only [dq29, dq30, dq21])
        go_simp
        go_at_call 41
        (with_reducible refine (f_cmp_v _ b A n c D m e (q) (12) ?_ b' A' n' c' D' m' e' (q') (12) ?_ u HU.out ?_ ?_ ?_ ?_).mono ?_); (exact (H.keep hk)); (exact (H'.keep hk)); (first | omega | decide | assumption); (first | omega | decide | assumption); (first | omega | decide | assumption); (first | omega | decide | assumption); rintro e wr ⟨rfl, hbr⟩
        have hz := hK.out (.int .i64 u) _ rfl hbr
        simp only [dq29, dq30, dq21] at hz
        exact hz⟩
    · exact .inl ⟨by simp, by simp, fun xf wq hk hbl hd K hK => by
        have dq21 : xf 21 = .bool false := hd ⟨21, .guard⟩ (by simp) rfl
        have y : Blk wq (w.heap.size + 1 + 1) 24 #[.bool b2, .slice A2 n2 c2, .slice D2 m2 e2] := hbl _ (List.Mem.tail _ (List.Mem.tail _ (List.Mem.head _))) (by simp [Region.binds])
        obtain ⟨hcl0, hcl1, hcl2⟩ := y.c3
        (try dsimp only); (try simp only [dq21])
        go_simp
        have hz := hK.out (.agg #[.bool b2, .slice A2 n2 c2, .slice D2 m2 e2]) _ rfl (brefl _)
        simp only [dq21] at hz
        exact hz⟩
    · exact .inl ⟨by simp, by simp, fun xf wq hk hbl hd K hK => by
        have dq32 : xf 32 = .agg #[.bool b2, .slice A2 n2 c2, .slice D2 m2 e2] := hd ⟨32, .data⟩ (by simp) rfl
        have dq21 : xf 21 = .bool false := hd ⟨21, .guard⟩ (by simp) rfl
        (try dsimp only); (try simp only [dq32, dq21])
        go_simp
        go_at_call 44
        (with_reducible refine (f_sign_v _ b2 A2 n2 c2 D2 m2 e2 (q2) (12) ?_ s HS.out ?_ ?_).mono ?_); (exact (H2.keep hk)); (first | omega | decide | assumption); (first | omega | decide | assumption); rintro e wr ⟨rfl, hbr⟩
        have hz := hK.out (.int .i64 s) _ rfl hbr
        simp only [dq32, dq21] at hz
        exact hz⟩
    · exact .inl ⟨by simp, by simp, fun xf wq hk hbl hd K hK => by
        have dq31 : xf 31 = .int .i64 u := hd ⟨31, .data⟩ (by simp) rfl
        have dq33 : xf 33 = .int .i64 s := hd ⟨33, .data⟩ (by simp) rfl
        have dq21 : xf 21 = .bool false := hd ⟨21, .guard⟩ (by simp) rfl
        (try dsimp only); (try simp only [dq31, dq33, dq21])
        go_simp
        have hz := hK.out (.int .i64 p) _ rfl (brefl _)
        simp only [dq31, dq33, dq21] at hz
        exact hz⟩
    · exact .inl ⟨by simp, by simp, fun xf wq hk hbl hd K hK => by
        have dq28 : xf 28 = .int .i64 p := hd ⟨28, .data⟩ (by simp) rfl
        have dq34 : xf 34 = .int .i64 p := hd ⟨34, .data⟩ (by simp) rfl
        have dq21 : xf 21 = .bool false := hd ⟨21, .guard⟩ (by simp) rfl
        (try dsimp only); (try simp only [dq28, dq34, dq21])
        go_simp
        have hz := hK.out (.bool false) _ rfl (brefl _)
        simp only [dq28, dq34, dq21] at hz
        exact hz⟩
    · exact .inl ⟨by simp, by simp, fun xf wq hk hbl hd K hK => by
        have dq21 : xf 21 = .bool false := hd ⟨21, .data⟩ (by simp) rfl
        have dq35 : xf 35 = .bool false := hd ⟨35, .data⟩ (by simp) rfl
        (try dsimp only); (try simp only [dq21, dq35])
        go_simp
        have hz := hK.out (.bool false) _ rfl (brefl _)
        simp only [dq21, dq35] at hz
        exact hz⟩
    clear cx1aa cx1ab cx1ac lx1aa lx1ab lx1ac lx1ad cx1ba cx1bb cx1bc lx1ba lx1bb lx1bc lx1bd cx1ca cx1cb cx1cc lx1ca lx1cb lx1cc lx1cd
    intro y3 w3 kq3 hbl3 lw3 how hrr hfl hds
    replace H := H.keep kq3
    replace H' := H'.keep kq3
    replace H2 := H2.keep kq3
    replace HD := HD.keep kq3
    replace HD' := HD'.keep kq3
    obtain ⟨_, z3_0, ez, _⟩ := how _ (List.Mem.head _)
    obtain rfl := ez (by simp)
    dsimp only at z3_0
    obtain ⟨_, z3_1, ez, _⟩ := how _ (List.Mem.tail _ (List.Mem.head _))
    obtain rfl := ez (by simp)
    dsimp only at z3_1
    obtain ⟨_, z3_2, ez, _⟩ := how _ (List.Mem.tail _ (List.Mem.tail _ (List.Mem.head _)))
    obtain rfl := ez (by simp)
    dsimp only at z3_2
    obtain ⟨_, z3_3, ez, _⟩ := how _ (List.Mem.tail _ (List.Mem.tail _ (List.Mem.tail _ (List.Mem.head _))))
    obtain rfl := ez (by simp)
    dsimp only at z3_3
    have ea36 : y3 36 = .bool false := hrr 36 (by simp)
    (try dsimp only)
    simp only [ea36]
    clear hrr hfl how hds ea36
    clear x1a x1b x1c x1d
    have bw3 := bw2.trans hbl3
    clear bw2
    have cz3_0_0 : w3.cell? ⟨w.heap.size, 0, none⟩ = some (.bool b) := z3_0.cell 0
    have cz3_0_1 : w3.cell? ⟨w.heap.size, 1, none⟩ = some (.slice A n c) := z3_0.cell 1
    have cz3_0_2 : w3.cell? ⟨w.heap.size, 2, none⟩ = some (.slice D m e) := z3_0.cell 2
    obtain ⟨lz3_0_0, lz3_0_1, lz3_0_2, lz3_0_3⟩ := lts0 z3_0.lt
    have cz3_1_0 : w3.cell? ⟨w.heap.size + 1, 0, none⟩ = some (.bool b') := z3_1.cell 0
    have cz3_1_1 : w3.cell? ⟨w.heap.size + 1, 1, none⟩ = some (.slice A' n' c') := z3_1.cell 1
    have cz3_1_2 : w3.cell? ⟨w.heap.size + 1, 2, none⟩ = some (.slice D' m' e') := z3_1.cell 2
    obtain ⟨lz3_1_0, lz3_1_1, lz3_1_2, lz3_1_3⟩ := lts1 z3_1.lt
    go_wp2_with fail
    cases ho : r.ok
    · have HO := Lib.hid ho
      clear ho
      refine wp_region_lin (B := w.heap.size) (fr := fun xf => ⟨List.toArray (.agg #[.bool b, .slice A n c, .slice D m e] :: .agg #[.bool b', .slice A' n' c', .slice D' m' e'] :: .agg #[.bool b2, .slice A2 n2 c2, .slice D2 m2 e2] :: .pointer (some ⟨w.heap.size, 0, none⟩) :: .pointer (some ⟨w.heap.size + 1, 0, none⟩) :: .pointer (some ⟨w.heap.size + 1 + 1, 0, none⟩) :: .bool false :: .agg #[.bool b, .slice A n c, .slice D m e] :: .agg #[.bool b', .slice A' n' c', .slice D' m' e'] :: .agg #[.bool b2, .slice A2 n2 c2, .slice D2 m2 e2] :: .slice (some ⟨w.heap.size + 1 + 1 + 1, 0, none⟩) 3 3 :: .bool true :: .bool false :: .bool false :: .bool true :: .bool false :: .bool false :: undef :: y3 0 :: y3 1 :: y3 2 :: y3 3 :: y3 4 :: y3 5 :: y3 6 :: y3 7 :: y3 8 :: y3 9 :: y3 10 :: y3 11 :: y3 12 :: y3 13 :: y3 14 :: y3 15 :: y3 16 :: y3 17 :: y3 18 :: y3 19 :: y3 20 :: y3 21 :: y3 22 :: y3 23 :: y3 24 :: y3 25 :: y3 26 :: y3 27 :: y3 28 :: y3 29 :: y3 30 :: y3 31 :: y3 32 :: y3 33 :: y3 34 :: y3 35 :: .bool false :: xf 0 :: xf 1 :: xf 2 :: xf 3 :: xf 4 :: xf 5 :: xf 6 :: xf 7 :: xf 8 :: xf 9 :: xf 10 :: xf 11 :: xf 12 :: xf 13 :: xf 14 :: xf 15 :: undef :: undef :: undef :: undef :: undef :: undef :: undef :: undef :: undef :: undef :: undef :: undef :: undef :: undef :: undef :: undef :: []), []⟩) (R := fun ri => List.getD ((PEq (.agg #[.bool b, .slice A n c, .slice D m e])) :: (PEq (.bool false)) :: (PEq (.bool false)) :: (PEq undef) :: (PEq undef) :: (PEq (.bool false)) :: (PEq (.bool false)) :: (PEq undef) :: (PEq undef) :: (PEq undef) :: (PEq undef) :: (PEq undef) :: (PEq undef) :: (PEq undef) :: (PEq undef) :: (PEq (.bool false)) :: []) ri (fun _ _ => True)) (es := []) (ow := [⟨w.heap.size, 16, 0, 24, #[.bool b, .slice A n c, .slice D m e], CAny⟩, ⟨w.heap.size + 1, 16, 0, 24, #[.bool b', .slice A' n' c', .slice D' m' e'], CAny⟩, ⟨w.heap.size + 1 + 1, 16, 0, 24, #[.bool b2, .slice A2 n2 c2, .slice D2 m2 e2], CAny⟩, ⟨w.heap.size + 1 + 1 + 1, 16, 0, 24, #[.bool b, .slice A n c, .slice D m e, .bool b', .slice A' n' c', .slice D' m' e', .bool b2, .slice A2 n2 c2, .slice D2 m2 e2], CAny⟩]) (x0 := (fun _ => undef)) (by kernel_rfl)
        (each_of ⟨fun _ _ => rfl, fun _ _ => rfl, fun _ _ => rfl, fun _ _ => rfl, fun _ _ => rfl, fun _ _ => rfl, fun _ _ => rfl, fun _ _ => rfl, fun _ _ => rfl, fun _ _ => rfl, fun _ _ => rfl, fun _ _ => rfl, fun _ _ => rfl, fun _ _ => rfl, fun _ _ => rfl, fun _ _ => rfl, trivial⟩) (each_of (acyc_from _ 0 (by kernel_rfl))) (AllStab.get _ ⟨stEq _, stEq _, stEq _, stEq _, stEq _, stEq _, stEq _, stEq _, stEq _, stEq _, stEq _, stEq _, stEq _, stEq _, stEq _, stEq _, trivial⟩)
        (fun _ h => nomatch h) (List.forall_mem_cons.2 ⟨scAny, List.forall_mem_cons.2 ⟨scAny, List.forall_mem_cons.2 ⟨scAny, List.forall_mem_cons.2 ⟨scAny, fun _ h => nomatch h⟩⟩⟩⟩) (fun _ h => nomatch h) bw3.size
        (List.forall_mem_cons.2 ⟨⟨z3_0, by show w.heap.size ≤ w.heap.size; omega⟩, List.forall_mem_cons.2 ⟨⟨z3_1, by show w.heap.size ≤ w.heap.size + 1; omega⟩, List.forall_mem_cons.2 ⟨⟨z3_2, by show w.heap.size ≤ w.heap.size + 1 + 1; omega⟩, List.forall_mem_cons.2 ⟨⟨z3_3, by show w.heap.size ≤ w.heap.size + 1 + 1 + 1; omega⟩, fun _ h => nomatch h⟩⟩⟩⟩) (ownDist (by simp <;> omega))
        (each_of ⟨?_, ?_, ?_, ?_, ?_, ?_, ?_, ?_, ?_, ?_, ?_, ?_, ?_, ?_, ?_, ?_, trivial⟩) ?_
      · exact .inl ⟨by simp, by simp, fun xf wq hk hbl hd K hK => by
          have y : Blk wq w.heap.size 24 #[.bool b, .slice A n c, .slice D m e] := hbl _ (List.Mem.head _) (by simp [Region.binds])
          obtain ⟨hcl0, hcl1, hcl2⟩ := y.c3
          (try dsimp only)
          go_simp
          exact hK.out (.agg #[.bool b, .slice A n c, .slice D m e]) _ rfl (brefl _)⟩
      · exact .inl ⟨by simp, by simp, fun xf wq hk hbl hd K hK => by
          have dq0 : xf 0 = .agg #[.bool b, .slice A n c, .slice D m e] := hd ⟨0, .data⟩ (by simp) rfl
          (try dsimp only); (try simp only [dq0])
          go_simp
          go_at_call 31
          (with_reducible refine (f_valid_e _ b A n c D m e r 12 false ?_ ?_ ?_).mono ?_); (first | exact HD.keep hk | exact HD | fail); (decide); (exact HO.out); rintro e wr ⟨rfl, hbr⟩
          have hz := hK.out (.bool false) _ rfl hbr
          simp only [dq0] at hz
          exact hz⟩
      · exact .inl ⟨by simp, by simp, fun xf wq hk hbl hd K hK => by
          have dq1 : xf 1 = .bool false := hd ⟨1, .data⟩ (by simp) rfl
          (try dsimp only); (try simp only [dq1])
          go_simp
          have hz := hK.out (.bool false) _ rfl (brefl _)
          simp only [dq1] at hz
          exact hz⟩
      · exact .inl ⟨by simp, by simp, fun xf wq hk hbl hd K hK => by
          have dq2 : xf 2 = .bool false := hd ⟨2, .guard⟩ (by simp) rfl
          (try dsimp only); (try simp only [dq2])
          go_simp
          have hz := hK.out undef _ rfl (brefl _)
          simp only [dq2] at hz
          exact hz⟩
      · exact .inl ⟨by simp, by simp, fun xf wq hk hbl hd K hK => by
          have dq2 : xf 2 = .bool false := hd ⟨2, .guard⟩ (by simp) rfl
          (try dsimp only); (try simp only [dq2])
          go_simp
          have hz := hK.out undef _ rfl (brefl _)
          simp only [dq2] at hz
          exact hz⟩
      · exact .inl ⟨by simp, by simp, fun xf wq hk hbl hd K hK => by
          have dq2 : xf 2 = .bool false := hd ⟨2, .data⟩ (by simp) rfl
          have dq4 : xf 4 = undef := hd ⟨4, .data⟩ (by simp) rfl
          (try dsimp only); (try simp only [dq2, dq4])
          go_simp
          have hz := hK.out (.bool false) _ rfl (brefl _)
          simp only [dq2, dq4] at hz
          exact hz⟩
      · exact .inl ⟨by simp, by simp, fun xf wq hk hbl hd K hK => by
          have dq5 : xf 5 = .bool false := hd ⟨5, .data⟩ (by simp) rfl
          (try dsimp only); (try simp only [dq5])
          go_simp
          have hz := hK.out (.bool false) _ rfl (brefl _)
          simp only [dq5] at hz
          exact hz⟩
      · exact .inl ⟨by simp, by simp, fun xf wq hk hbl hd K hK => by
          have dq6 : xf 6 = .bool false := hd ⟨6, .guard⟩ (by simp) rfl
          (try dsimp only); (try simp only [dq6])
          go_simp
          have hz := hK.out undef _ rfl (brefl _)
          simp only [dq6] at hz
          exact hz⟩
      · exact .inl ⟨by simp, by simp, fun xf wq hk hbl hd K hK => by
          have dq6 : xf 6 = .bool false := hd ⟨6, .guard⟩ (by simp) rfl
          (try dsimp only); (try simp only [dq6])
          go_simp
          have hz := hK.out undef _ rfl (brefl _)
          simp only [dq6] at hz
          exact hz⟩
      · exact .inl ⟨by simp, by simp, fun xf wq hk hbl hd K hK => by
          have dq6 : xf 6 = .bool false := hd ⟨6, .guard⟩ (by simp) rfl
          (try dsimp only); (try simp only [dq6])
          go_simp
          have hz := hK.out undef _ rfl (brefl _)
          simp only [dq6] at hz
          exact hz⟩
      · exact .inl ⟨by simp, by simp, fun xf wq hk hbl hd K hK => by
          have dq6 : xf 6 = .bool false := hd ⟨6, .guard⟩ (by simp) rfl
          (try dsimp only); (try simp only [dq6])
          go_simp
          have hz := hK.out undef _ rfl (brefl _)
          simp only [dq6] at hz
          exact hz⟩
      · exact .inl ⟨by simp, by simp, fun xf wq hk hbl hd K hK => by
          have dq6 : xf 6 = .bool false := hd ⟨6, .guard⟩ (by simp) rfl
          (try dsimp only); (try simp only [dq6])
          go_simp
          have hz := hK.out undef _ rfl (brefl _)
          simp only [dq6] at hz
          exact hz⟩
      · exact .inl ⟨by simp, by simp, fun xf wq hk hbl hd K hK => by
          have dq6 : xf 6 = .bool false := hd ⟨6, .guard⟩ (by simp) rfl
          (try dsimp only); (try simp only [dq6])
          go_simp
          have hz := hK.out undef _ rfl (brefl _)
          simp only [dq6] at hz
          exact hz⟩
      · exact .inl ⟨by simp, by simp, fun xf wq hk hbl hd K hK => by
          have dq6 : xf 6 = .bool false := hd ⟨6, .guard⟩ (by simp) rfl
          (try dsimp only); (try simp only [dq6])
          go_simp
          have hz := hK.out undef _ rfl (brefl _)
          simp only [dq6] at hz
          exact hz⟩
      · exact .inl ⟨by simp, by simp, fun xf wq hk hbl hd K hK => by
          have dq6 : xf 6 = .bool false := hd ⟨6, .guard⟩ (by simp) rfl
          (try dsimp only); (try simp only [dq6])
          go_simp
          have hz := hK.out undef _ rfl (brefl _)
          simp only [dq6] at hz
          exact hz⟩
      · exact .inl ⟨by simp, by simp, fun xf wq hk hbl hd K hK => by
          have dq6 : xf 6 = .bool false := hd ⟨6, .data⟩ (by simp) rfl
          have dq14 : xf 14 = undef := hd ⟨14, .data⟩ (by simp) rfl
          (try dsimp only); (try simp only [dq6, dq14])
          go_simp
          have hz := hK.out (.bool false) _ rfl (brefl _)
          simp only [dq6, dq14] at hz
          exact hz⟩
      clear cz3_0_0 cz3_0_1 cz3_0_2 lz3_0_0 lz3_0_1 lz3_0_2 lz3_0_3
      intro y16 w16 kq16 hbl16 lw16 how hrr hfl hds
      replace H := H.keep kq16
      replace H' := H'.keep kq16
      replace H2 := H2.keep kq16
      replace HD := HD.keep kq16
      replace HD' := HD'.keep kq16
      obtain ⟨_, z16_0, ez, _⟩ := how _ (List.Mem.head _)
      obtain rfl := ez (by simp)
      dsimp only at z16_0
      obtain ⟨_, z16_1, ez, _⟩ := how _ (List.Mem.tail _ (List.Mem.head _))
      obtain rfl := ez (by simp)
      dsimp only at z16_1
      obtain ⟨_, z16_2, ez, _⟩ := how _ (List.Mem.tail _ (List.Mem.tail _ (List.Mem.head _)))
      obtain rfl := ez (by simp)
      dsimp only at z16_2
      obtain ⟨_, z16_3, ez, _⟩ := how _ (List.Mem.tail _ (List.Mem.tail _ (List.Mem.tail _ (List.Mem.head _))))
      obtain rfl := ez (by simp)
      dsimp only at z16_3
      have ea15 : y16 15 = .bool false := hrr 15 (by simp)
      (try dsimp only)
      simp only [ea15]
      clear hrr hfl how hds ea15
      clear z3_0 z3_1 z3_2 z3_3
      have bw16 := bw3.trans hbl16
      clear bw3
      have cz16_0_0 : w16.cell? ⟨w.heap.size, 0, none⟩ = some (.bool b) := z16_0.cell 0
      have cz16_0_1 : w16.cell? ⟨w.heap.size, 1, none⟩ = some (.slice A n c) := z16_0.cell 1
      have cz16_0_2 : w16.cell? ⟨w.heap.size, 2, none⟩ = some (.slice D m e) := z16_0.cell 2
      obtain ⟨lz16_0_0, lz16_0_1, lz16_0_2, lz16_0_3⟩ := lts0 z16_0.lt
      have cz16_1_0 : w16.cell? ⟨w.heap.size + 1, 0, none⟩ = some (.bool b') := z16_1.cell 0
      have cz16_1_1 : w16.cell? ⟨w.heap.size + 1, 1, none⟩ = some (.slice A' n' c') := z16_1.cell 1
      have cz16_1_2 : w16.cell? ⟨w.heap.size + 1, 2, none⟩ = some (.slice D' m' e') := z16_1.cell 2
      obtain ⟨lz16_1_0, lz16_1_1, lz16_1_2, lz16_1_3⟩ := lts1 z16_1.lt
      go_wp2_with fail
      by_cases g1 : 0 < u
      · (with_reducible refine (f_cmp_v _ b A n c D m e (q) (12) ?_ b' A' n' c' D' m' e' (q') (12) ?_ u HU.out ?_ ?_ ?_ ?_).mono ?_); (exact H); (exact H'); (first | omega | decide | assumption); (first | omega | decide | assumption); (first | omega | decide | assumption); (first | omega | decide | assumption); rintro e w19 ⟨rfl, q19⟩
        clear cz16_0_0 cz16_0_1 cz16_0_2 lz16_0_0 lz16_0_1 lz16_0_2 lz16_0_3 cz16_1_0 cz16_1_1 cz16_1_2 lz16_1_0 lz16_1_1 lz16_1_2 lz16_1_3
        replace H := H.belw q19
        replace H' := H'.belw q19
        replace H2 := H2.belw q19
        replace HD := HD.belw q19
        replace HD' := HD'.belw q19
        replace z16_0 := z16_0.b q19
        replace z16_1 := z16_1.b q19
        replace z16_2 := z16_2.b q19
        replace z16_3 := z16_3.b q19
        have bw19 := bw16.trans (q19.mono bw16.size)
        have lw19 := q19.size
        clear q19 bw16
        go_wp2_with fail
        go_ret
        exact retB rfl bw19
      · by_cases g2 : 0 < v
        · (with_reducible refine (f_cmp_v _ b A n c D m e (q) (12) ?_ b' A' n' c' D' m' e' (q') (12) ?_ u HU.out ?_ ?_ ?_ ?_).mono ?_); (exact H); (exact H'); (first | omega | decide | assumption); (first | omega | decide | assumption); (first | omega | decide | assumption); (first | omega | decide | assumption); rintro e w19 ⟨rfl, q19⟩
          clear cz16_0_0 cz16_0_1 cz16_0_2 lz16_0_0 lz16_0_1 lz16_0_2 lz16_0_3 cz16_1_0 cz16_1_1 cz16_1_2 lz16_1_0 lz16_1_1 lz16_1_2 lz16_1_3
          replace H := H.belw q19
          replace H' := H'.belw q19
          replace H2 := H2.belw q19
          replace HD := HD.belw q19
          replace HD' := HD'.belw q19
          replace z16_0 := z16_0.b q19
          replace z16_1 := z16_1.b q19
          replace z16_2 := z16_2.b q19
          replace z16_3 := z16_3.b q19
          have bw19 := bw16.trans (q19.mono bw16.size)
          have lw19 := q19.size
          clear q19 bw16
          obtain ⟨cz16_1_0, cz16_1_1, cz16_1_2⟩ := z16_1.c3
          obtain ⟨lz16_1_0, lz16_1_1, lz16_1_2, lz16_1_3⟩ := lts1 z16_1.lt
          obtain ⟨cz16_2_0, cz16_2_1, cz16_2_2⟩ := z16_2.c3
          obtain ⟨lz16_2_0, lz16_2_1, lz16_2_2, lz16_2_3⟩ := lts2 z16_2.lt
          go_wp2_with fail
          (with_reducible refine (f_cmp_v _ b' A' n' c' D' m' e' (q') (12) ?_ b2 A2 n2 c2 D2 m2 e2 (q2) (12) ?_ v HV.out ?_ ?_ ?_ ?_).mono ?_); (exact H'); (exact H2); (first | omega | decide | assumption); (first | omega | decide | assumption); (first | omega | decide | assumption); (first | omega | decide | assumption); rintro e w20 ⟨rfl, q20⟩
          clear cz16_1_0 cz16_1_1 cz16_1_2 lz16_1_0 lz16_1_1 lz16_1_2 lz16_1_3 cz16_2_0 cz16_2_1 cz16_2_2 lz16_2_0 lz16_2_1 lz16_2_2 lz16_2_3
          replace H := H.belw q20
          replace H' := H'.belw q20
          replace H2 := H2.belw q20
          replace HD := HD.belw q20
          replace HD' := HD'.belw q20
          replace z16_0 := z16_0.b q20
          replace z16_1 := z16_1.b q20
          replace z16_2 := z16_2.b q20
          replace z16_3 := z16_3.b q20
          have bw20 := bw19.trans (q20.mono bw19.size)
          have lw20 := q20.size
          clear q20 bw19
          go_wp2_with fail
          go_ret
          exact retB rfl bw20
        · have g3 := HT.out (by omega) (by omega)
          (with_reducible refine (f_cmp_v _ b A n c D m e (q) (12) ?_ b' A' n' c' D' m' e' (q') (12) ?_ u HU.out ?_ ?_ ?_ ?_).mono ?_); (exact H); (exact H'); (first | omega | decide | assumption); (first | omega | decide | assumption); (first | omega | decide | assumption); (first | omega | decide | assumption); rintro e w19 ⟨rfl, q19⟩
          clear cz16_0_0 cz16_0_1 cz16_0_2 lz16_0_0 lz16_0_1 lz16_0_2 lz16_0_3 cz16_1_0 cz16_1_1 cz16_1_2 lz16_1_0 lz16_1_1 lz16_1_2 lz16_1_3
          replace H := H.belw q19
          replace H' := H'.belw q19
          replace H2 := H2.belw q19
          replace HD := HD.belw q19
          replace HD' := HD'.belw q19
          replace z16_0 := z16_0.b q19
          replace z16_1 := z16_1.b q19
          replace z16_2 := z16_2.b q19
          replace z16_3 := z16_3.b q19
          have bw19 := bw16.trans (q19.mono bw16.size)
          have lw19 := q19.size
          clear q19 bw16
          obtain ⟨cz16_1_0, cz16_1_1, cz16_1_2⟩ := z16_1.c3
          obtain ⟨lz16_1_0, lz16_1_1, lz16_1_2, lz16_1_3⟩ := lts1 z16_1.lt
          obtain ⟨cz16_2_0, cz16_2_1, cz16_2_2⟩ := z16_2.c3
          obtain ⟨lz16_2_0, lz16_2_1, lz16_2_2, lz16_2_3⟩ := lts2 z16_2.lt
          go_wp2_with fail
          (with_reducible refine (f_cmp_v _ b' A' n' c' D' m' e' (q') (12) ?_ b2 A2 n2 c2 D2 m2 e2 (q2) (12) ?_ v HV.out ?_ ?_ ?_ ?_).mono ?_); (exact H'); (exact H2); (first | omega | decide | assumption); (first | omega | decide | assumption); (first | omega | decide | assumption); (first | omega | decide | assumption); rintro e w20 ⟨rfl, q20⟩
          clear cz16_1_0 cz16_1_1 cz16_1_2 lz16_1_0 lz16_1_1 lz16_1_2 lz16_1_3 cz16_2_0 cz16_2_1 cz16_2_2 lz16_2_0 lz16_2_1 lz16_2_2 lz16_2_3
          replace H := H.belw q20
          replace H' := H'.belw q20
          replace H2 := H2.belw q20
          replace HD := HD.belw q20
          replace HD' := HD'.belw q20
          replace z16_0 := z16_0.b q20
          replace z16_1 := z16_1.b q20
          replace z16_2 := z16_2.b q20
          replace z16_3 := z16_3.b q20
          have bw20 := bw19.trans (q20.mono bw19.size)
          have lw20 := q20.size
          clear q20 bw19
          obtain ⟨cz16_0_0, cz16_0_1, cz16_0_2⟩ := z16_0.c3
          obtain ⟨lz16_0_0, lz16_0_1, lz16_0_2, lz16_0_3⟩ := lts0 z16_0.lt
          obtain ⟨cz16_2_0, cz16_2_1, cz16_2_2⟩ := z16_2.c3
          obtain ⟨lz16_2_0, lz16_2_1, lz16_2_2, lz16_2_3⟩ := lts2 z16_2.lt
          go_wp2_with fail
          (with_reducible refine (f_cmp_v _ b A n c D m e (q) (12) ?_ b2 A2 n2 c2 D2 m2 e2 (q2) (12) ?_ x HX.out ?_ ?_ ?_ ?_).mono ?_); (exact H); (exact H2); (first | omega | decide | assumption); (first | omega | decide | assumption); (first | omega | decide | assumption); (first | omega | decide | assumption); rintro e w21 ⟨rfl, q21⟩
          clear cz16_0_0 cz16_0_1 cz16_0_2 lz16_0_0 lz16_0_1 lz16_0_2 lz16_0_3 cz16_2_0 cz16_2_1 cz16_2_2 lz16_2_0 lz16_2_1 lz16_2_2 lz16_2_3
          replace H := H.belw q21
          replace H' := H'.belw q21
          replace H2 := H2.belw q21
          replace HD := HD.belw q21
          replace HD' := HD'.belw q21
          replace z16_0 := z16_0.b q21
          replace z16_1 := z16_1.b q21
          replace z16_2 := z16_2.b q21
          replace z16_3 := z16_3.b q21
          have bw21 := bw20.trans (q21.mono bw20.size)
          have lw21 := q21.size
          clear q21 bw20
          go_wp2_with fail
          go_ret
          exact retB rfl bw21
    · have HO := Lib.hid ho
      clear ho
      cases ho' : r'.ok
      · have HO' := Lib.hid ho'
        clear ho'
        refine wp_region_lin (B := w.heap.size) (fr := fun xf => ⟨List.toArray (.agg #[.bool b, .slice A n c, .slice D m e] :: .agg #[.bool b', .slice A' n' c', .slice D' m' e'] :: .agg #[.bool b2, .slice A2 n2 c2, .slice D2 m2 e2] :: .pointer (some ⟨w.heap.size, 0, none⟩) :: .pointer (some ⟨w.heap.size + 1, 0, none⟩) :: .pointer (some ⟨w.heap.size + 1 + 1, 0, none⟩) :: .bool false :: .agg #[.bool b, .slice A n c, .slice D m e] :: .agg #[.bool b', .slice A' n' c', .slice D' m' e'] :: .agg #[.bool b2, .slice A2 n2 c2, .slice D2 m2 e2] :: .slice (some ⟨w.heap.size + 1 + 1 + 1, 0, none⟩) 3 3 :: .bool true :: .bool false :: .bool false :: .bool true :: .bool false :: .bool false :: undef :: y3 0 :: y3 1 :: y3 2 :: y3 3 :: y3 4 :: y3 5 :: y3 6 :: y3 7 :: y3 8 :: y3 9 :: y3 10 :: y3 11 :: y3 12 :: y3 13 :: y3 14 :: y3 15 :: y3 16 :: y3 17 :: y3 18 :: y3 19 :: y3 20 :: y3 21 :: y3 22 :: y3 23 :: y3 24 :: y3 25 :: y3 26 :: y3 27 :: y3 28 :: y3 29 :: y3 30 :: y3 31 :: y3 32 :: y3 33 :: y3 34 :: y3 35 :: .bool false :: xf 0 :: xf 1 :: xf 2 :: xf 3 :: xf 4 :: xf 5 :: xf 6 :: xf 7 :: xf 8 :: xf 9 :: xf 10 :: xf 11 :: xf 12 :: xf 13 :: xf 14 :: xf 15 :: undef :: undef :: undef :: undef :: undef :: undef :: undef :: undef :: undef :: undef :: undef :: undef :: undef :: undef :: undef :: undef :: []), []⟩) (R := fun ri => List.getD ((PEq (.agg #[.bool b, .slice A n c, .slice D m e])) :: (PEq (.bool true)) :: (PEq (.bool true)) :: (PEq (.agg #[.bool b', .slice A' n' c', .slice D' m' e'])) :: (PEq (.bool false)) :: (PEq (.bool false)) :: (PEq (.bool false)) :: (PEq undef) :: (PEq undef) :: (PEq undef) :: (PEq undef) :: (PEq undef) :: (PEq undef) :: (PEq undef) :: (PEq undef) :: (PEq (.bool false)) :: []) ri (fun _ _ => True)) (es := []) (ow := [⟨w.heap.size, 16, 0, 24, #[.bool b, .slice A n c, .slice D m e], CAny⟩, ⟨w.heap.size + 1, 16, 0, 24, #[.bool b', .slice A' n' c', .slice D' m' e'], CAny⟩, ⟨w.heap.size + 1 + 1, 16, 0, 24, #[.bool b2, .slice A2 n2 c2, .slice D2 m2 e2], CAny⟩, ⟨w.heap.size + 1 + 1 + 1, 16, 0, 24, #[.bool b, .slice A n c, .slice D m e, .bool b', .slice A' n' c', .slice D' m' e', .bool b2, .slice A2 n2 c2, .slice D2 m2 e2], CAny⟩]) (x0 := (fun _ => undef)) (by kernel_rfl)
          (each_of ⟨fun _ _ => rfl, fun _ _ => rfl, fun _ _ => rfl, fun _ _ => rfl, fun _ _ => rfl, fun _ _ => rfl, fun _ _ => rfl, fun _ _ => rfl, fun _ _ => rfl, fun _ _ => rfl, fun _ _ => rfl, fun _ _ => rfl, fun _ _ => rfl, fun _ _ => rfl, fun _ _ => rfl, fun _ _ => rfl, trivial⟩) (each_of (acyc_from _ 0 (by kernel_rfl))) (AllStab.get _ ⟨stEq _, stEq _, stEq _, stEq _, stEq _, stEq _, stEq _, stEq _, stEq _, stEq _, stEq _, stEq _, stEq _, stEq _, stEq _, stEq _, trivial⟩)
          (fun _ h => nomatch h) (List.forall_mem_cons.2 ⟨scAny, List.forall_mem_cons.2 ⟨scAny, List.forall_mem_cons.2 ⟨scAny, List.forall_mem_cons.2 ⟨scAny, fun _ h => nomatch h⟩⟩⟩⟩) (fun _ h => nomatch h) bw3.size
          (List.forall_mem_cons.2 ⟨⟨z3_0, by show w.heap.size ≤ w.heap.size; omega⟩, List.forall_mem_cons.2 ⟨⟨z3_1, by show w.heap.size ≤ w.heap.size + 1; omega⟩, List.forall_mem_cons.2 ⟨⟨z3_2, by show w.heap.size ≤ w.heap.size + 1 + 1; omega⟩, List.forall_mem_cons.2 ⟨⟨z3_3, by show w.heap.size ≤ w.heap.size + 1 + 1 + 1; omega⟩, fun _ h => nomatch h⟩⟩⟩⟩) (ownDist (by simp <;> omega))
          (each_of ⟨?_, ?_, ?_, ?_, ?_, ?_, ?_, ?_, ?_, ?_, ?_, ?_, ?_, ?_, ?_, ?_, trivial⟩) ?_
        · exact .inl ⟨by simp, by simp, fun xf wq hk hbl hd K hK => by
            have y : Blk wq w.heap.size 24 #[.bool b, .slice A n c, .slice D m e] := hbl _ (List.Mem.head _) (by simp [Region.binds])
            obtain ⟨hcl0, hcl1, hcl2⟩ := y.c3
            (try dsimp only)
            go_simp
            exact hK.out (.agg #[.bool b, .slice A n c, .slice D m e]) _ rfl (brefl _)⟩
        · exact .inl ⟨by simp, by simp, fun xf wq hk hbl hd K hK => by
            have dq0 : xf 0 = .agg #[.bool b, .slice A n c, .slice D m e] := hd ⟨0, .data⟩ (by simp) rfl
            (try dsimp only); (try simp only [dq0])
            go_simp
            go_at_call 31
            (with_reducible refine (f_valid_e _ b A n c D m e r 12 true ?_ ?_ ?_).mono ?_); (first | exact HD.keep hk | exact HD | fail); (decide); (exact HO.out); rintro e wr ⟨rfl, hbr⟩
            have hz := hK.out (.bool true) _ rfl hbr
            simp only [dq0] at hz
            exact hz⟩
        · exact .inl ⟨by simp, by simp, fun xf wq hk hbl hd K hK => by
            have dq1 : xf 1 = .bool true := hd ⟨1, .data⟩ (by simp) rfl
            (try dsimp only); (try simp only [dq1])
            go_simp
            have hz := hK.out (.bool true) _ rfl (brefl _)
            simp only [dq1] at hz
            exact hz⟩
        · exact .inl ⟨by simp, by simp, fun xf wq hk hbl hd K hK => by
            have dq2 : xf 2 = .bool true := hd ⟨2, .guard⟩ (by simp) rfl
            have y : Blk wq (w.heap.size + 1) 24 #[.bool b', .slice A' n' c', .slice D' m' e'] := hbl _ (List.Mem.tail _ (List.Mem.head _)) (by simp [Region.binds])
            obtain ⟨hcl0, hcl1, hcl2⟩ := y.c3
            (try dsimp only); (try simp only [dq2])
            go_simp
            have hz := hK.out (.agg #[.bool b', .slice A' n' c', .slice D' m' e']) _ rfl (brefl _)
            simp only [dq2] at hz
            exact hz⟩
        · exact .inl ⟨by simp, by simp, fun xf wq hk hbl hd K hK => by
            have dq3 : xf 3 = .agg #[.bool b', .slice A' n' c', .slice D' m' e'] := hd ⟨3, .data⟩ (by simp) rfl
            have dq2 : xf 2 = .bool true := hd ⟨2, .guard⟩ (by simp) rfl
            (try dsimp only); (try simp only [dq3, dq2])
            go_simp
            go_at_call 31
            (with_reducible refine (f_valid_e _ b' A' n' c' D' m' e' r' 12 false ?_ ?_ ?_).mono ?_); (first | exact HD'.keep hk | exact HD' | fail); (decide); (exact HO'.out); rintro e wr ⟨rfl, hbr⟩
            have hz := hK.out (.bool false) _ rfl hbr
            simp only [dq3, dq2] at hz
            exact hz⟩
        · exact .inl ⟨by simp, by simp, fun xf wq hk hbl hd K hK => by
            have dq2 : xf 2 = .bool true := hd ⟨2, .data⟩ (by simp) rfl
            have dq4 : xf 4 = .bool false := hd ⟨4, .data⟩ (by simp) rfl
            (try dsimp only); (try simp only [dq2, dq4])
            go_simp
            have hz := hK.out (.bool false) _ rfl (brefl _)
            simp only [dq2, dq4] at hz
            exact hz⟩
        · exact .inl ⟨by simp, by simp, fun xf wq hk hbl hd K hK => by
            have dq5 : xf 5 = .bool false := hd ⟨5, .data⟩ (by simp) rfl
            (try dsimp only); (try simp only [dq5])
            go_simp
            have hz := hK.out (.bool false) _ rfl (brefl _)
            simp only [dq5] at hz
            exact hz⟩
        · exact .inl ⟨by simp, by simp, fun xf wq hk hbl hd K hK => by
            have dq6 : xf 6 = .bool false := hd ⟨6, .guard⟩ (by simp) rfl
            (try dsimp only); (try simp only [dq6])
            go_simp
            have hz := hK.out undef _ rfl (brefl _)
            simp only [dq6] at hz
            exact hz⟩
        · exact .inl ⟨by simp, by simp, fun xf wq hk hbl hd K hK => by
            have dq6 : xf 6 = .bool false := hd ⟨6, .guard⟩ (by simp) rfl
            (try dsimp only); (try simp only [dq6])
            go_simp
            have hz := hK.out undef _ rfl (brefl _)
            simp only [dq6] at hz
            exact hz⟩
        · exact .inl ⟨by simp, by simp, fun xf wq hk hbl hd K hK => by
            have dq6 : xf 6 = .bool false := hd ⟨6, .guard⟩ (by simp) rfl
            (try dsimp only); (try simp only [dq6])
            go_simp
            have hz := hK.out undef _ rfl (brefl _)
            simp only [dq6] at hz
            exact hz⟩
        · exact .inl ⟨by simp, by simp, fun xf wq hk hbl hd K hK => by
            have dq6 : xf 6 = .bool false := hd ⟨6, .guard⟩ (by simp) rfl
            (try dsimp only); (try simp only [dq6])
            go_simp
            have hz := hK.out undef _ rfl (brefl _)
            simp only [dq6] at hz
            exact hz⟩
        · exact .inl ⟨by simp, by simp, fun xf wq hk hbl hd K hK => by
            have dq6 : xf 6 = .bool false := hd ⟨6, .guard⟩ (by simp) rfl
            (try dsimp only); (try simp only [dq6])
            go_simp
            have hz := hK.out undef _ rfl (brefl _)
            simp only [dq6] at hz
            exact hz⟩
        · exact .inl ⟨by simp, by simp, fun xf wq hk hbl hd K hK => by
            have dq6 : xf 6 = .bool false := hd ⟨6, .guard⟩ (by simp) rfl
            (try dsimp only); (try simp only [dq6])
            go_simp
            have hz := hK.out undef _ rfl (brefl _)
            simp only [dq6] at hz
            exact hz⟩
        · exact .inl ⟨by simp, by simp, fun xf wq hk hbl hd K hK => by
            have dq6 : xf 6 = .bool false := hd ⟨6, .guard⟩ (by simp) rfl
            (try dsimp only); (try simp only [dq6])
            go_simp
            have hz := hK.out undef _ rfl (brefl _)
            simp only [dq6] at hz
            exact hz⟩
        · exact .inl ⟨by simp, by simp, fun xf wq hk hbl hd K hK => by
            have dq6 : xf 6 = .bool false := hd ⟨6, .guard⟩ (by simp) rfl
            (try dsimp only); (try simp only [dq6])
            go_simp
            have hz := hK.out undef _ rfl (brefl _)
            simp only [dq6] at hz
            exact hz⟩
        · exact .inl ⟨by simp, by simp, fun xf wq hk hbl hd K hK => by
            have dq6 : xf 6 = .bool false := hd ⟨6, .data⟩ (by simp) rfl
            have dq14 : xf 14 = undef := hd ⟨14, .data⟩ (by simp) rfl
            (try dsimp only); (try simp only [dq6, dq14])
            go_simp
            have hz := hK.out (.bool false) _ rfl (brefl _)
            simp only [dq6, dq14] at hz
            exact hz⟩
        clear cz3_0_0 cz3_0_1 cz3_0_2 lz3_0_0 lz3_0_1 lz3_0_2 lz3_0_3 cz3_1_0 cz3_1_1 cz3_1_2 lz3_1_0 lz3_1_1 lz3_1_2 lz3_1_3
        intro y16 w16 kq16 hbl16 lw16 how hrr hfl hds
        replace H := H.keep kq16
        replace H' := H'.keep kq16
        replace H2 := H2.keep kq16
        replace HD := HD.keep kq16
        replace HD' := HD'.keep kq16
        obtain ⟨_, z16_0, ez, _⟩ := how _ (List.Mem.head _)
        obtain rfl := ez (by simp)
        dsimp only at z16_0
        obtain ⟨_, z16_1, ez, _⟩ := how _ (List.Mem.tail _ (List.Mem.head _))
        obtain rfl := ez (by simp)
        dsimp only at z16_1
        obtain ⟨_, z16_2, ez, _⟩ := how _ (List.Mem.tail _ (List.Mem.tail _ (List.Mem.head _)))
        obtain rfl := ez (by simp)
        dsimp only at z16_2
        obtain ⟨_, z16_3, ez, _⟩ := how _ (List.Mem.tail _ (List.Mem.tail _ (List.Mem.tail _ (List.Mem.head _))))
        obtain rfl := ez (by simp)
        dsimp only at z16_3
        have ea15 : y16 15 = .bool false := hrr 15 (by simp)
        (try dsimp only)
        simp only [ea15]
        clear hrr hfl how hds ea15
        clear z3_0 z3_1 z3_2 z3_3
        have bw16 := bw3.trans hbl16
        clear bw3
        obtain ⟨cz16_0_0, cz16_0_1, cz16_0_2⟩ := z16_0.c3
        obtain ⟨lz16_0_0, lz16_0_1, lz16_0_2, lz16_0_3⟩ := lts0 z16_0.lt
        obtain ⟨cz16_1_0, cz16_1_1, cz16_1_2⟩ := z16_1.c3
        obtain ⟨lz16_1_0, lz16_1_1, lz16_1_2, lz16_1_3⟩ := lts1 z16_1.lt
        go_wp2_with fail
        by_cases g1 : 0 < u
        · (with_reducible refine (f_cmp_v _ b A n c D m e (q) (12) ?_ b' A' n' c' D' m' e' (q') (12) ?_ u HU.out ?_ ?_ ?_ ?_).mono ?_); (exact H); (exact H'); (first | omega | decide | assumption); (first | omega | decide | assumption); (first | omega | decide | assumption); (first | omega | decide | assumption); rintro e w20 ⟨rfl, q20⟩
          clear cz16_0_0 cz16_0_1 cz16_0_2 lz16_0_0 lz16_0_1 lz16_0_2 lz16_0_3 cz16_1_0 cz16_1_1 cz16_1_2 lz16_1_0 lz16_1_1 lz16_1_2 lz16_1_3
          replace H := H.belw q20
          replace H' := H'.belw q20
          replace H2 := H2.belw q20
          replace HD := HD.belw q20
          replace HD' := HD'.belw q20
          replace z16_0 := z16_0.b q20
          replace z16_1 := z16_1.b q20
          replace z16_2 := z16_2.b q20
          replace z16_3 := z16_3.b q20
          have bw20 := bw16.trans (q20.mono bw16.size)
          have lw20 := q20.size
          clear q20 bw16
          go_wp2_with fail
          go_ret
          exact retB rfl bw20
        · by_cases g2 : 0 < v
          · (with_reducible refine (f_cmp_v _ b A n c D m e (q) (12) ?_ b' A' n' c' D' m' e' (q') (12) ?_ u HU.out ?_ ?_ ?_ ?_).mono ?_); (exact H); (exact H'); (first | omega | decide | assumption); (first | omega | decide | assumption); (first | omega | decide | assumption); (first | omega | decide | assumption); rintro e w20 ⟨rfl, q20⟩
            clear cz16_0_0 cz16_0_1 cz16_0_2 lz16_0_0 lz16_0_1 lz16_0_2 lz16_0_3 cz16_1_0 cz16_1_1 cz16_1_2 lz16_1_0 lz16_1_1 lz16_1_2 lz16_1_3
            replace H := H.belw q20
            replace H' := H'.belw q20
            replace H2 := H2.belw q20
            replace HD := HD.belw q20
            replace HD' := HD'.belw q20
            replace z16_0 := z16_0.b q20
            replace z16_1 := z16_1.b q20
            replace z16_2 := z16_2.b q20
            replace z16_3 := z16_3.b q20
            have bw20 := bw16.trans (q20.mono bw16.size)
            have lw20 := q20.size
            clear q20 bw16
            obtain ⟨cz16_1_0, cz16_1_1, cz16_1_2⟩ := z16_1.c3
            obtain ⟨lz16_1_0, lz16_1_1, lz16_1_2, lz16_1_3⟩ := lts1 z16_1.lt
            obtain ⟨cz16_2_0, cz16_2_1, cz16_2_2⟩ := z16_2.c3
            obtain ⟨lz16_2_0, lz16_2_1, lz16_2_2, lz16_2_3⟩ := lts2 z16_2.lt
            go_wp2_with fail
            (with_reducible refine (f_cmp_v _ b' A' n' c' D' m' e' (q') (12) ?_ b2 A2 n2 c2 D2 m2 e2 (q2) (12) ?_ v HV.out ?_ ?_ ?_ ?_).mono ?_); (exact H'); (exact H2); (first | omega | decide | assumption); (first | omega | decide | assumption); (first | omega | decide | assumption); (first | omega | decide | assumption); rintro e w21 ⟨rfl, q21⟩
            clear cz16_1_0 cz16_1_1 cz16_1_2 lz16_1_0 lz16_1_1 lz16_1_2 lz16_1_3 cz16_2_0 cz16_2_1 cz16_2_2 lz16_2_0 lz16_2_1 lz16_2_2 lz16_2_3
            replace H := H.belw q21
            replace H' := H'.belw q21
            replace H2 := H2.belw q21
            replace HD := HD.belw q21
            replace HD' := HD'.belw q21
            replace z16_0 := z16_0.b q21
            replace z16_1 := z16_1.b q21
            replace z16_2 := z16_2.b q21
            replace z16_3 := z16_3.b q21
            have bw21 := bw20.trans (q21.mono bw20.size)
            have lw21 := q21.size
            clear q21 bw20
            go_wp2_with fail
            go_ret
            exact retB rfl bw21
          · have g3 := HT.out (by omega) (by omega)
            (with_reducible refine (f_cmp_v _ b A n c D m e (q) (12) ?_ b' A' n' c' D' m' e' (q') (12) ?_ u HU.out ?_ ?_ ?_ ?_).mono ?_); (exact H); (exact H'); (first | omega | decide | assumption); (first | omega | decide | assumption); (first | omega | decide | assumption); (first | omega | decide | assumption); rintro e w20 ⟨rfl, q20⟩
            clear cz16_0_0 cz16_0_1 cz16_0_2 lz16_0_0 lz16_0_1 lz16_0_2 lz16_0_3 cz16_1_0 cz16_1_1 cz16_1_2 lz16_1_0 lz16_1_1 lz16_1_2 lz16_1_3
            replace H := H.belw q20
            replace H' := H'.belw q20
            replace H2 := H2.belw q20
            replace HD := HD.belw q20
            replace HD' := HD'.belw q20
            replace z16_0 := z16_0.b q20
            replace z16_1 := z16_1.b q20
            replace z16_2 := z16_2.b q20
            replace z16_3 := z16_3.b q20
            have bw20 := bw16.trans (q20.mono bw16.size)
            have lw20 := q20.size
            clear q20 bw16
            obtain ⟨cz16_1_0, cz16_1_1, cz16_1_2⟩ := z16_1.c3
            obtain ⟨lz16_1_0, lz16_1_1, lz16_1_2, lz16_1_3⟩ := lts1 z16_1.lt
            obtain ⟨cz16_2_0, cz16_2_1, cz16_2_2⟩ := z16_2.c3
            obtain ⟨lz16_2_0, lz16_2_1, lz16_2_2, lz16_2_3⟩ := lts2 z16_2.lt
            go_wp2_with fail
            (with_reducible refine (f_cmp_v _ b' A' n' c' D' m' e' (q') (12) ?_ b2 A2 n2 c2 D2 m2 e2 (q2) (12) ?_ v HV.out ?_ ?_ ?_ ?_).mono ?_); (exact H'); (exact H2); (first | omega | decide | assumption); (first | omega | decide | assumption); (first | omega | decide | assumption); (first | omega | decide | assumption); rintro e w21 ⟨rfl, q21⟩
            clear cz16_1_0 cz16_1_1 cz16_1_2 lz16_1_0 lz16_1_1 lz16_1_2 lz16_1_3 cz16_2_0 cz16_2_1 cz16_2_2 lz16_2_0 lz16_2_1 lz16_2_2 lz16_2_3
            replace H := H.belw q21
            replace H' := H'.belw q21
            replace H2 := H2.belw q21
            replace HD := HD.belw q21
            replace HD' := HD'.belw q21
            replace z16_0 := z16_0.b q21
            replace z16_1 := z16_1.b q21
            replace z16_2 := z16_2.b q21
            replace z16_3 := z16_3.b q21
            have bw21 := bw20.trans (q21.mono bw20.size)
            have lw21 := q21.size
            clear q21 bw20
            obtain ⟨cz16_0_0, cz16_0_1, cz16_0_2⟩ := z16_0.c3
            obtain ⟨lz16_0_0, lz16_0_1, lz16_0_2, lz16_0_3⟩ := lts0 z16_0.lt
            obtain ⟨cz16_2_0, cz16_2_1, cz16_2_2⟩ := z16_2.c3
            obtain ⟨lz16_2_0, lz16_2_1, lz16_2_2, lz16_2_3⟩ := lts2 z16_2.lt
            go_wp2_with fail
            (with_reducible refine (f_cmp_v _ b A n c D m e (q) (12) ?_ b2 A2 n2 c2 D2 m2 e2 (q2) (12) ?_ x HX.out ?_ ?_ ?_ ?_).mono ?_); (exact H); (exact H2); (first | omega | decide | assumption); (first | omega | decide | assumption); (first | omega | decide | assumption); (first | omega | decide | assumption); rintro e w22 ⟨rfl, q22⟩
            clear cz16_0_0 cz16_0_1 cz16_0_2 lz16_0_0 lz16_0_1 lz16_0_2 lz16_0_3 cz16_2_0 cz16_2_1 cz16_2_2 lz16_2_0 lz16_2_1 lz16_2_2 lz16_2_3
            replace H := H.belw q22
            replace H' := H'.belw q22
            replace H2 := H2.belw q22
            replace HD := HD.belw q22
            replace HD' := HD'.belw q22
            replace z16_0 := z16_0.b q22
            replace z16_1 := z16_1.b q22
            replace z16_2 := z16_2.b q22
            replace z16_3 := z16_3.b q22
            have bw22 := bw21.trans (q22.mono bw21.size)
            have lw22 := q22.size
            clear q22 bw21
            go_wp2_with fail
            go_ret
            exact retB rfl bw22
      · have HO' := Lib.hid ho'
        clear ho'
        have HW := HD.qv HO.out
        have HW' := HD'.qv HO'.out
        rw [HQ.out] at HW
        rw [HQ'.out] at HW'
        by_cases he : q = q'
        · have HE := Lib.hid he
          have hu0 : u = 0 := HUE.out.1 he
          clear he
          have huz : ((u : Int) == 0) = true := by simpa using hu0
          clear hu0
          refine wp_region_lin (B := w.heap.size) (fr := fun xf => ⟨List.toArray (.agg #[.bool b, .slice A n c, .slice D m e] :: .agg #[.bool b', .slice A' n' c', .slice D' m' e'] :: .agg #[.bool b2, .slice A2 n2 c2, .slice D2 m2 e2] :: .pointer (some ⟨w.heap.size, 0, none⟩) :: .pointer (some ⟨w.heap.size + 1, 0, none⟩) :: .pointer (some ⟨w.heap.size + 1 + 1, 0, none⟩) :: .bool false :: .agg #[.bool b, .slice A n c, .slice D m e] :: .agg #[.bool b', .slice A' n' c', .slice D' m' e'] :: .agg #[.bool b2, .slice A2 n2 c2, .slice D2 m2 e2] :: .slice (some ⟨w.heap.size + 1 + 1 + 1, 0, none⟩) 3 3 :: .bool true :: .bool false :: .bool false :: .bool true :: .bool false :: .bool false :: undef :: y3 0 :: y3 1 :: y3 2 :: y3 3 :: y3 4 :: y3 5 :: y3 6 :: y3 7 :: y3 8 :: y3 9 :: y3 10 :: y3 11 :: y3 12 :: y3 13 :: y3 14 :: y3 15 :: y3 16 :: y3 17 :: y3 18 :: y3 19 :: y3 20 :: y3 21 :: y3 22 :: y3 23 :: y3 24 :: y3 25 :: y3 26 :: y3 27 :: y3 28 :: y3 29 :: y3 30 :: y3 31 :: y3 32 :: y3 33 :: y3 34 :: y3 35 :: .bool false :: xf 0 :: xf 1 :: xf 2 :: xf 3 :: xf 4 :: xf 5 :: xf 6 :: xf 7 :: xf 8 :: xf 9 :: xf 10 :: xf 11 :: xf 12 :: xf 13 :: xf 14 :: xf 15 :: undef :: undef :: undef :: undef :: undef :: undef :: undef :: undef :: undef :: undef :: undef :: undef :: undef :: undef :: undef :: undef :: []), []⟩) (R := fun ri => List.getD ((PEq (.agg #[.bool b, .slice A n c, .slice D m e])) :: (PEq (.bool true)) :: (PEq (.bool true)) :: (PEq (.agg #[.bool b', .slice A' n' c', .slice D' m' e'])) :: (PEq (.bool true)) :: (PEq (.bool true)) :: (PEq (.bool true)) :: (PEq (.agg #[.bool b, .slice A n c, .slice D m e])) :: (PEq (.agg #[.bool b', .slice A' n' c', .slice D' m' e'])) :: (PEq (.int .i64 u)) :: (PEq (.bool true)) :: (PEq (.agg #[.bool b, .slice A n c, .slice D m e])) :: (PEq (.agg #[.bool b', .slice A' n' c', .slice D' m' e'])) :: (PEq (.bool true)) :: (PEq (.bool false)) :: (PEq (.bool false)) :: []) ri (fun _ _ => True)) (es := []) (ow := [⟨w.heap.size, 16, 0, 24, #[.bool b, .slice A n c, .slice D m e], CAny⟩, ⟨w.heap.size + 1, 16, 0, 24, #[.bool b', .slice A' n' c', .slice D' m' e'], CAny⟩, ⟨w.heap.size + 1 + 1, 16, 0, 24, #[.bool b2, .slice A2 n2 c2, .slice D2 m2 e2], CAny⟩, ⟨w.heap.size + 1 + 1 + 1, 16, 0, 24, #[.bool b, .slice A n c, .slice D m e, .bool b', .slice A' n' c', .slice D' m' e', .bool b2, .slice A2 n2 c2, .slice D2 m2 e2], CAny⟩]) (x0 := (fun _ => undef)) (by kernel_rfl)
            (each_of ⟨fun _ _ => rfl, fun _ _ => rfl, fun _ _ => rfl, fun _ _ => rfl, fun _ _ => rfl, fun _ _ => rfl, fun _ _ => rfl, fun _ _ => rfl, fun _ _ => rfl, fun _ _ => rfl, fun _ _ => rfl, fun _ _ => rfl, fun _ _ => rfl, fun _ _ => rfl, fun _ _ => rfl, fun _ _ => rfl, trivial⟩) (each_of (acyc_from _ 0 (by kernel_rfl))) (AllStab.get _ ⟨stEq _, stEq _, stEq _, stEq _, stEq _, stEq _, stEq _, stEq _, stEq _, stEq _, stEq _, stEq _, stEq _, stEq _, stEq _, stEq _, trivial⟩)
            (fun _ h => nomatch h) (List.forall_mem_cons.2 ⟨scAny, List.forall_mem_cons.2 ⟨scAny, List.forall_mem_cons.2 ⟨scAny, List.forall_mem_cons.2 ⟨scAny, fun _ h => nomatch h⟩⟩⟩⟩) (fun _ h => nomatch h) bw3.size
            (List.forall_mem_cons.2 ⟨⟨z3_0, by show w.heap.size ≤ w.heap.size; omega⟩, List.forall_mem_cons.2 ⟨⟨z3_1, by show w.heap.size ≤ w.heap.size + 1; omega⟩, List.forall_mem_cons.2 ⟨⟨z3_2, by show w.heap.size ≤ w.heap.size + 1 + 1; omega⟩, List.forall_mem_cons.2 ⟨⟨z3_3, by show w.heap.size ≤ w.heap.size + 1 + 1 + 1; omega⟩, fun _ h => nomatch h⟩⟩⟩⟩) (ownDist (by simp <;> omega))
            (each_of ⟨?_, ?_, ?_, ?_, ?_, ?_, ?_, ?_, ?_, ?_, ?_, ?_, ?_, ?_, ?_, ?_, trivial⟩) ?_
          · exact .inl ⟨by simp, by simp, fun xf wq hk hbl hd K hK => by
              have y : Blk wq w.heap.size 24 #[.bool b, .slice A n c, .slice D m e] := hbl _ (List.Mem.head _) (by simp [Region.binds])
              obtain ⟨hcl0, hcl1, hcl2⟩ := y.c3
              (try dsimp only)
              go_simp
              exact hK.out (.agg #[.bool b, .slice A n c, .slice D m e]) _ rfl (brefl _)⟩
          · exact .inl ⟨by simp, by simp, fun xf wq hk hbl hd K hK => by
              have dq0 : xf 0 = .agg #[.bool b, .slice A n c, .slice D m e] := hd ⟨0, .data⟩ (by simp) rfl
              (try dsimp only); (try simp only [dq0])
              go_simp
              go_at_call 31
              (with_reducible refine (f_valid_e _ b A n c D m e r 12 true ?_ ?_ ?_).mono ?_); (first | exact HD.keep hk | exact HD | fail); (decide); (exact HO.out); rintro e wr ⟨rfl, hbr⟩
              have hz := hK.out (.bool true) _ rfl hbr
              simp only [dq0] at hz
              exact hz⟩
          · exact .inl ⟨by simp, by simp, fun xf wq hk hbl hd K hK => by
              have dq1 : xf 1 = .bool true := hd ⟨1, .data⟩ (by simp) rfl
              (try dsimp only); (try simp only [dq1])
              go_simp
              have hz := hK.out (.bool true) _ rfl (brefl _)
              simp only [dq1] at hz
              exact hz⟩
          · exact .inl ⟨by simp, by simp, fun xf wq hk hbl hd K hK => by
              have dq2 : xf 2 = .bool true := hd ⟨2, .guard⟩ (by simp) rfl
              have y : Blk wq (w.heap.size + 1) 24 #[.bool b', .slice A' n' c', .slice D' m' e'] := hbl _ (List.Mem.tail _ (List.Mem.head _)) (by simp [Region.binds])
              obtain ⟨hcl0, hcl1, hcl2⟩ := y.c3
              (try dsimp only); (try simp only [dq2])
              go_simp
              have hz := hK.out (.agg #[.bool b', .slice A' n' c', .slice D' m' e']) _ rfl (brefl _)
              simp only [dq2] at hz
              exact hz⟩
          · exact .inl ⟨by simp, by simp, fun xf wq hk hbl hd K hK => by
              have dq3 : xf 3 = .agg #[.bool b', .slice A' n' c', .slice D' m' e'] := hd ⟨3, .data⟩ (by simp) rfl
              have dq2 : xf 2 = .bool true := hd ⟨2, .guard⟩ (by simp) rfl
              (try dsimp only); (try simp only [dq3, dq2])
              go_simp
              go_at_call 31
              (with_reducible refine (f_valid_e _ b' A' n' c' D' m' e' r' 12 true ?_ ?_ ?_).mono ?_); (first | exact HD'.keep hk | exact HD' | fail); (decide); (exact HO'.out); rintro e wr ⟨rfl, hbr⟩
              have hz := hK.out (.bool true) _ rfl hbr
              simp only [dq3, dq2] at hz
              exact hz⟩
          · exact .inl ⟨by simp, by simp, fun xf wq hk hbl hd K hK => by
              have dq2 : xf 2 = .bool true := hd ⟨2, .data⟩ (by simp) rfl
              have dq4 : xf 4 = .bool true := hd ⟨4, .data⟩ (by simp) rfl
              (try dsimp only); (try simp only [dq2, dq4])
              go_simp
              have hz := hK.out (.bool true) _ rfl (brefl _)
              simp only [dq2, dq4] at hz
              exact hz⟩
          · exact .inl ⟨by simp, by simp, fun xf wq hk hbl hd K hK => by
              have dq5 : xf 5 = .bool true := hd ⟨5, .data⟩ (by simp) rfl
              (try dsimp only); (try simp only [dq5])
              go_simp
              have hz := hK.out (.bool true) _ rfl (brefl _)
              simp only [dq5] at hz
              exact hz⟩
          · exact .inl ⟨by simp, by simp, fun xf wq hk hbl hd K hK => by
              have dq6 : xf 6 = .bool true := hd ⟨6, .guard⟩ (by simp) rfl
              have y : Blk wq w.heap.size 24 #[.bool b, .slice A n c, .slice D m e] := hbl _ (List.Mem.head _) (by simp [Region.binds])
              obtain ⟨hcl0, hcl1, hcl2⟩ := y.c3
              (try dsimp only); (try simp only [dq6])
              go_simp
              have hz := hK.out (.agg #[.bool b, .slice A n c, .slice D m e]) _ rfl (brefl _)
              simp only [dq6] at hz
              exact hz⟩
          · exact .inl ⟨by simp, by simp, fun xf wq hk hbl hd K hK => by
              have dq6 : xf 6 = .bool true := hd ⟨6, .guard⟩ (by simp) rfl
              have y : Blk wq (w.heap.size + 1) 24 #[.bool b', .slice A' n' c', .slice D' m' e'] := hbl _ (List.Mem.tail _ (List.Mem.head _)) (by simp [Region.binds])
              obtain ⟨hcl0, hcl1, hcl2⟩ := y.c3
              (try dsimp only); (try simp only [dq6])
              go_simp
              have hz := hK.out (.agg #[.bool b', .slice A' n' c', .slice D' m' e']) _ rfl (brefl _)
              simp only [dq6] at hz
              exact hz⟩
          · exact .inl ⟨by simp, by simp, fun xf wq hk hbl hd K hK => by
              have dq7 : xf 7 = .agg #[.bool b, .slice A n c, .slice D m e] := hd ⟨7, .data⟩ (by simp) rfl
              have dq8 : xf 8 = .agg #[.bool b', .slice A' n' c', .slice D' m' e'] := hd ⟨8, .data⟩ (by simp) rfl
              have dq6 : xf 6 = .bool true := hd ⟨6, .guard⟩ (by simp) rfl
              (try dsimp only); (try simp only [dq7, dq8, dq6])
              go_simp
              go_at_call 41
              (with_reducible refine (f_cmp_v _ b A n c D m e (q) (12) ?_ b' A' n' c' D' m' e' (q') (12) ?_ u HU.out ?_ ?_ ?_ ?_).mono ?_); (exact (HW.keep hk).qz); (exact (HW'.keep hk).qz); (first | omega | decide | assumption); (first | omega | decide | assumption); (first | omega | decide | assumption); (first | omega | decide | assumption); rintro e wr ⟨rfl, hbr⟩
              have hz := hK.out (.int .i64 u) _ rfl hbr
              simp only [dq7, dq8, dq6] at hz
              exact hz⟩
          · exact .inl ⟨by simp, by simp, fun xf wq hk hbl hd K hK => by
              have dq9 : xf 9 = .int .i64 u := hd ⟨9, .data⟩ (by simp) rfl
              have dq6 : xf 6 = .bool true := hd ⟨6, .guard⟩ (by simp) rfl
              (try dsimp only); (try simp only [dq9, dq6])
              go_simp
              have hz := hK.out (.bool true) _ rfl (brefl _)
              simp only [dq9, dq6] at hz
              exact hz⟩
          · exact .inl ⟨by simp, by simp, fun xf wq hk hbl hd K hK => by
              have dq6 : xf 6 = .bool true := hd ⟨6, .guard⟩ (by simp) rfl
              have y : Blk wq w.heap.size 24 #[.bool b, .slice A n c, .slice D m e] := hbl _ (List.Mem.head _) (by simp [Region.binds])
              obtain ⟨hcl0, hcl1, hcl2⟩ := y.c3
              (try dsimp only); (try simp only [dq6])
              go_simp
              have hz := hK.out (.agg #[.bool b, .slice A n c, .slice D m e]) _ rfl (brefl _)
              simp only [dq6] at hz
              exact hz⟩
          · exact .inl ⟨by simp, by simp, fun xf wq hk hbl hd K hK => by
              have dq6 : xf 6 = .bool true := hd ⟨6, .guard⟩ (by simp) rfl
              have y : Blk wq (w.heap.size + 1) 24 #[.bool b', .slice A' n' c', .slice D' m' e'] := hbl _ (List.Mem.tail _ (List.Mem.head _)) (by simp [Region.binds])
              obtain ⟨hcl0, hcl1, hcl2⟩ := y.c3
              (try dsimp only); (try simp only [dq6])
              go_simp
              have hz := hK.out (.agg #[.bool b', .slice A' n' c', .slice D' m' e']) _ rfl (brefl _)
              simp only [dq6] at hz
              exact hz⟩
          · exact .inl ⟨by simp, by simp, fun xf wq hk hbl hd K hK => by
              have dq11 : xf 11 = .agg #[.bool b, .slice A n c, .slice D m e] := hd ⟨11, .data⟩ (by simp) rfl
              have dq12 : xf 12 = .agg #[.bool b', .slice A' n' c', .slice D' m' e'] := hd ⟨12, .data⟩ (by simp) rfl
              have dq6 : xf 6 = .bool true := hd ⟨6, .guard⟩ (by simp) rfl
              (try dsimp only); (try simp only [dq11, dq12, dq6])
              go_simp
              go_at_call 33
              (with_reducible refine (rs_same _ b A n c D m e (q) (12) ?_ b' A' n' c' D' m' e' (q') (12) ?_  ?_ ?_).mono ?_); (exact (HW.keep hk)); (exact (HW'.keep hk)); (exact HE.out); (omega); rintro e wr ⟨rfl, hbr⟩
              have hz := hK.out (.bool true) _ rfl hbr
              simp only [dq11, dq12, dq6] at hz
              exact hz⟩
          · exact .inl ⟨by simp, by simp, fun xf wq hk hbl hd K hK => by
              have dq10 : xf 10 = .bool true := hd ⟨10, .data⟩ (by simp) rfl
              have dq13 : xf 13 = .bool true := hd ⟨13, .data⟩ (by simp) rfl
              have dq6 : xf 6 = .bool true := hd ⟨6, .guard⟩ (by simp) rfl
              (try dsimp only); (try simp only [dq10, dq13, dq6])
              go_simp
              have hz := hK.out (.bool false) _ rfl (brefl _)
              simp only [dq10, dq13, dq6] at hz
              exact hz⟩
          · exact .inl ⟨by simp, by simp, fun xf wq hk hbl hd K hK => by
              have dq6 : xf 6 = .bool true := hd ⟨6, .data⟩ (by simp) rfl
              have dq14 : xf 14 = .bool false := hd ⟨14, .data⟩ (by simp) rfl
              (try dsimp only); (try simp only [dq6, dq14])
              go_simp
              have hz := hK.out (.bool false) _ rfl (brefl _)
              simp only [dq6, dq14] at hz
              exact hz⟩
          clear cz3_0_0 cz3_0_1 cz3_0_2 lz3_0_0 lz3_0_1 lz3_0_2 lz3_0_3 cz3_1_0 cz3_1_1 cz3_1_2 lz3_1_0 lz3_1_1 lz3_1_2 lz3_1_3
          intro y16 w16 kq16 hbl16 lw16 how hrr hfl hds
          replace H := H.keep kq16
          replace H' := H'.keep kq16
          replace H2 := H2.keep kq16
          replace HD := HD.keep kq16
          replace HD' := HD'.keep kq16
          replace HW := HW.keep kq16
          replace HW' := HW'.keep kq16
          obtain ⟨_, z16_0, ez, _⟩ := how _ (List.Mem.head _)
          obtain rfl := ez (by simp)
          dsimp only at z16_0
          obtain ⟨_, z16_1, ez, _⟩ := how _ (List.Mem.tail _ (List.Mem.head _))
          obtain rfl := ez (by simp)
          dsimp only at z16_1
          obtain ⟨_, z16_2, ez, _⟩ := how _ (List.Mem.tail _ (List.Mem.tail _ (List.Mem.head _)))
          obtain rfl := ez (by simp)
          dsimp only at z16_2
          obtain ⟨_, z16_3, ez, _⟩ := how _ (List.Mem.tail _ (List.Mem.tail _ (List.Mem.tail _ (List.Mem.head _))))
          obtain rfl := ez (by simp)
          dsimp only at z16_3
          have ea15 : y16 15 = .bool false := hrr 15 (by simp)
          (try dsimp only)
          simp only [ea15]
          clear hrr hfl how hds ea15
          clear z3_0 z3_1 z3_2 z3_3
          have bw16 := bw3.trans hbl16
          clear bw3
          obtain ⟨cz16_0_0, cz16_0_1, cz16_0_2⟩ := z16_0.c3
          obtain ⟨lz16_0_0, lz16_0_1, lz16_0_2, lz16_0_3⟩ := lts0 z16_0.lt
          obtain ⟨cz16_1_0, cz16_1_1, cz16_1_2⟩ := z16_1.c3
          obtain ⟨lz16_1_0, lz16_1_1, lz16_1_2, lz16_1_3⟩ := lts1 z16_1.lt
          go_wp2_with fail
          by_cases g1 : 0 < u
          · (with_reducible refine (f_cmp_v _ b A n c D m e (q) (12) ?_ b' A' n' c' D' m' e' (q') (12) ?_ u HU.out ?_ ?_ ?_ ?_).mono ?_); (exact HW.qz); (exact HW'.qz); (first | omega | decide | assumption); (first | omega | decide | assumption); (first | omega | decide | assumption); (first | omega | decide | assumption); rintro e w22 ⟨rfl, q22⟩
            clear cz16_0_0 cz16_0_1 cz16_0_2 lz16_0_0 lz16_0_1 lz16_0_2 lz16_0_3 cz16_1_0 cz16_1_1 cz16_1_2 lz16_1_0 lz16_1_1 lz16_1_2 lz16_1_3
            replace H := H.belw q22
            replace H' := H'.belw q22
            replace H2 := H2.belw q22
            replace HD := HD.belw q22
            replace HD' := HD'.belw q22
            replace HW := HW.belw q22
            replace HW' := HW'.belw q22
            replace z16_0 := z16_0.b q22
            replace z16_1 := z16_1.b q22
            replace z16_2 := z16_2.b q22
            replace z16_3 := z16_3.b q22
            have bw22 := bw16.trans (q22.mono bw16.size)
            have lw22 := q22.size
            clear q22 bw16
            go_wp2_with fail
            go_ret
            exact retB rfl bw22
          · by_cases g2 : 0 < v
            · (with_reducible refine (f_cmp_v _ b A n c D m e (q) (12) ?_ b' A' n' c' D' m' e' (q') (12) ?_ u HU.out ?_ ?_ ?_ ?_).mono ?_); (exact HW.qz); (exact HW'.qz); (first | omega | decide | assumption); (first | omega | decide | assumption); (first | omega | decide | assumption); (first | omega | decide | assumption); rintro e w22 ⟨rfl, q22⟩
              clear cz16_0_0 cz16_0_1 cz16_0_2 lz16_0_0 lz16_0_1 lz16_0_2 lz16_0_3 cz16_1_0 cz16_1_1 cz16_1_2 lz16_1_0 lz16_1_1 lz16_1_2 lz16_1_3
              replace H := H.belw q22
              replace H' := H'.belw q22
              replace H2 := H2.belw q22
              replace HD := HD.belw q22
              replace HD' := HD'.belw q22
              replace HW := HW.belw q22
              replace HW' := HW'.belw q22
              replace z16_0 := z16_0.b q22
              replace z16_1 := z16_1.b q22
              replace z16_2 := z16_2.b q22
              replace z16_3 := z16_3.b q22
              have bw22 := bw16.trans (q22.mono bw16.size)
              have lw22 := q22.size
              clear q22 bw16
              obtain ⟨cz16_1_0, cz16_1_1, cz16_1_2⟩ := z16_1.c3
              obtain ⟨lz16_1_0, lz16_1_1, lz16_1_2, lz16_1_3⟩ := lts1 z16_1.lt
              obtain ⟨cz16_2_0, cz16_2_1, cz16_2_2⟩ := z16_2.c3
              obtain ⟨lz16_2_0, lz16_2_1, lz16_2_2, lz16_2_3⟩ := lts2 z16_2.lt
              go_wp2_with fail
              (with_reducible refine (f_cmp_v _ b' A' n' c' D' m' e' (q') (12) ?_ b2 A2 n2 c2 D2 m2 e2 (q2) (12) ?_ v HV.out ?_ ?_ ?_ ?_).mono ?_); (exact HW'.qz); (exact H2); (first | omega | decide | assumption); (first | omega | decide | assumption); (first | omega | decide | assumption); (first | omega | decide | assumption); rintro e w23 ⟨rfl, q23⟩
              clear cz16_1_0 cz16_1_1 cz16_1_2 lz16_1_0 lz16_1_1 lz16_1_2 lz16_1_3 cz16_2_0 cz16_2_1 cz16_2_2 lz16_2_0 lz16_2_1 lz16_2_2 lz16_2_3
              replace H := H.belw q23
              replace H' := H'.belw q23
              replace H2 := H2.belw q23
              replace HD := HD.belw q23
              replace HD' := HD'.belw q23
              replace HW := HW.belw q23
              replace HW' := HW'.belw q23
              replace z16_0 := z16_0.b q23
              replace z16_1 := z16_1.b q23
              replace z16_2 := z16_2.b q23
              replace z16_3 := z16_3.b q23
              have bw23 := bw22.trans (q23.mono bw22.size)
              have lw23 := q23.size
              clear q23 bw22
              go_wp2_with fail
              go_ret
              exact retB rfl bw23
            · have g3 := HT.out (by omega) (by omega)
              (with_reducible refine (f_cmp_v _ b A n c D m e (q) (12) ?_ b' A' n' c' D' m' e' (q') (12) ?_ u HU.out ?_ ?_ ?_ ?_).mono ?_); (exact HW.qz); (exact HW'.qz); (first | omega | decide | assumption); (first | omega | decide | assumption); (first | omega | decide | assumption); (first | omega | decide | assumption); rintro e w22 ⟨rfl, q22⟩
              clear cz16_0_0 cz16_0_1 cz16_0_2 lz16_0_0 lz16_0_1 lz16_0_2 lz16_0_3 cz16_1_0 cz16_1_1 cz16_1_2 lz16_1_0 lz16_1_1 lz16_1_2 lz16_1_3
              replace H := H.belw q22
              replace H' := H'.belw q22
              replace H2 := H2.belw q22
              replace HD := HD.belw q22
              replace HD' := HD'.belw q22
              replace HW := HW.belw q22
              replace HW' := HW'.belw q22
              replace z16_0 := z16_0.b q22
              replace z16_1 := z16_1.b q22
              replace z16_2 := z16_2.b q22
              replace z16_3 := z16_3.b q22
              have bw22 := bw16.trans (q22.mono bw16.size)
              have lw22 := q22.size
              clear q22 bw16
              obtain ⟨cz16_1_0, cz16_1_1, cz16_1_2⟩ := z16_1.c3
              obtain ⟨lz16_1_0, lz16_1_1, lz16_1_2, lz16_1_3⟩ := lts1 z16_1.lt
              obtain ⟨cz16_2_0, cz16_2_1, cz16_2_2⟩ := z16_2.c3
              obtain ⟨lz16_2_0, lz16_2_1, lz16_2_2, lz16_2_3⟩ := lts2 z16_2.lt
              go_wp2_with fail
              (with_reducible refine (f_cmp_v _ b' A' n' c' D' m' e' (q') (12) ?_ b2 A2 n2 c2 D2 m2 e2 (q2) (12) ?_ v HV.out ?_ ?_ ?_ ?_).mono ?_); (exact HW'.qz); (exact H2); (first | omega | decide | assumption); (first | omega | decide | assumption); (first | omega | decide | assumption); (first | omega | decide | assumption); rintro e w23 ⟨rfl, q23⟩
              clear cz16_1_0 cz16_1_1 cz16_1_2 lz16_1_0 lz16_1_1 lz16_1_2 lz16_1_3 cz16_2_0 cz16_2_1 cz16_2_2 lz16_2_0 lz16_2_1 lz16_2_2 lz16_2_3
              replace H := H.belw q23
              replace H' := H'.belw q23
              replace H2 := H2.belw q23
              replace HD := HD.belw q23
              replace HD' := HD'.belw q23
              replace HW := HW.belw q23
              replace HW' := HW'.belw q23
              replace z16_0 := z16_0.b q23
              replace z16_1 := z16_1.b q23
              replace z16_2 := z16_2.b q23
              replace z16_3 := z16_3.b q23
              have bw23 := bw22.trans (q23.mono bw22.size)
              have lw23 := q23.size
              clear q23 bw22
              obtain ⟨cz16_0_0, cz16_0_1, cz16_0_2⟩ := z16_0.c3
              obtain ⟨lz16_0_0, lz16_0_1, lz16_0_2, lz16_0_3⟩ := lts0 z16_0.lt
              obtain ⟨cz16_2_0, cz16_2_1, cz16_2_2⟩ := z16_2.c3
              obtain ⟨lz16_2_0, lz16_2_1, lz16_2_2, lz16_2_3⟩ := lts2 z16_2.lt
              go_wp2_with fail
              (with_reducible refine (f_cmp_v _ b A n c D m e (q) (12) ?_ b2 A2 n2 c2 D2 m2 e2 (q2) (12) ?_ x HX.out ?_ ?_ ?_ ?_).mono ?_); (exact HW.qz); (exact H2); (first | omega | decide | assumption); (first | omega | decide | assumption); (first | omega | decide | assumption); (first | omega | decide | assumption); rintro e w24 ⟨rfl, q24⟩
              clear cz16_0_0 cz16_0_1 cz16_0_2 lz16_0_0 lz16_0_1 lz16_0_2 lz16_0_3 cz16_2_0 cz16_2_1 cz16_2_2 lz16_2_0 lz16_2_1 lz16_2_2 lz16_2_3
              replace H := H.belw q24
              replace H' := H'.belw q24
              replace H2 := H2.belw q24
              replace HD := HD.belw q24
              replace HD' := HD'.belw q24
              replace HW := HW.belw q24
              replace HW' := HW'.belw q24
              replace z16_0 := z16_0.b q24
              replace z16_1 := z16_1.b q24
              replace z16_2 := z16_2.b q24
              replace z16_3 := z16_3.b q24
              have bw24 := bw23.trans (q24.mono bw23.size)
              have lw24 := q24.size
              clear q24 bw23
              go_wp2_with fail
              go_ret
              exact retB rfl bw24
        · have HE := Lib.hid he
          have hu0 : ¬ u = 0 := fun h => he (HUE.out.2 h)
          clear he
          have huz : ((u : Int) == 0) = false := by simpa using hu0
          refine wp_region_lin (B := w.heap.size) (fr := fun xf => ⟨List.toArray (.agg #[.bool b, .slice A n c, .slice D m e] :: .agg #[.bool b', .slice A' n' c', .slice D' m' e'] :: .agg #[.bool b2, .slice A2 n2 c2, .slice D2 m2 e2] :: .pointer (some ⟨w.heap.size, 0, none⟩) :: .pointer (some ⟨w.heap.size + 1, 0, none⟩) :: .pointer (some ⟨w.heap.size + 1 + 1, 0, none⟩) :: .bool false :: .agg #[.bool b, .slice A n c, .slice D m e] :: .agg #[.bool b', .slice A' n' c', .slice D' m' e'] :: .agg #[.bool b2, .slice A2 n2 c2, .slice D2 m2 e2] :: .slice (some ⟨w.heap.size + 1 + 1 + 1, 0, none⟩) 3 3 :: .bool true :: .bool false :: .bool false :: .bool true :: .bool false :: .bool false :: undef :: y3 0 :: y3 1 :: y3 2 :: y3 3 :: y3 4 :: y3 5 :: y3 6 :: y3 7 :: y3 8 :: y3 9 :: y3 10 :: y3 11 :: y3 12 :: y3 13 :: y3 14 :: y3 15 :: y3 16 :: y3 17 :: y3 18 :: y3 19 :: y3 20 :: y3 21 :: y3 22 :: y3 23 :: y3 24 :: y3 25 :: y3 26 :: y3 27 :: y3 28 :: y3 29 :: y3 30 :: y3 31 :: y3 32 :: y3 33 :: y3 34 :: y3 35 :: .bool false :: xf 0 :: xf 1 :: xf 2 :: xf 3 :: xf 4 :: xf 5 :: xf 6 :: xf 7 :: xf 8 :: xf 9 :: xf 10 :: xf 11 :: xf 12 :: xf 13 :: xf 14 :: xf 15 :: undef :: undef :: undef :: undef :: undef :: undef :: undef :: undef :: undef :: undef :: undef :: undef :: undef :: undef :: undef :: undef :: []), []⟩) (R := fun ri => List.getD ((PEq (.agg #[.bool b, .slice A n c, .slice D m e])) :: (PEq (.bool true)) :: (PEq (.bool true)) :: (PEq (.agg #[.bool b', .slice A' n' c', .slice D' m' e'])) :: (PEq (.bool true)) :: (PEq (.bool true)) :: (PEq (.bool true)) :: (PEq (.agg #[.bool b, .slice A n c, .slice D m e])) :: (PEq (.agg #[.bool b', .slice A' n' c', .slice D' m' e'])) :: (PEq (.int .i64 u)) :: (PEq (.bool false)) :: (PEq (.agg #[.bool b, .slice A n c, .slice D m e])) :: (PEq (.agg #[.bool b', .slice A' n' c', .slice D' m' e'])) :: (PEq (.bool false)) :: (PEq (.bool false)) :: (PEq (.bool false)) :: []) ri (fun _ _ => True)) (es := []) (ow := [⟨w.heap.size, 16, 0, 24, #[.bool b, .slice A n c, .slice D m e], CAny⟩, ⟨w.heap.size + 1, 16, 0, 24, #[.bool b', .slice A' n' c', .slice D' m' e'], CAny⟩, ⟨w.heap.size + 1 + 1, 16, 0, 24, #[.bool b2, .slice A2 n2 c2, .slice D2 m2 e2], CAny⟩, ⟨w.heap.size + 1 + 1 + 1, 16, 0, 24, #[.bool b, .slice A n c, .slice D m e, .bool b', .slice A' n' c', .slice D' m' e', .bool b2, .slice A2 n2 c2, .slice D2 m2 e2], CAny⟩]) (x0 := (fun _ => undef)) (by kernel_rfl)
            (each_of ⟨fun _ _ => rfl, fun _ _ => rfl, fun _ _ => rfl, fun _ _ => rfl, fun _ _ => rfl, fun _ _ => rfl, fun _ _ => rfl, fun _ _ => rfl, fun _ _ => rfl, fun _ _ => rfl, fun _ _ => rfl, fun _ _ => rfl, fun _ _ => rfl, fun _ _ => rfl, fun _ _ => rfl, fun _ _ => rfl, trivial⟩) (each_of (acyc_from _ 0 (by kernel_rfl))) (AllStab.get _ ⟨stEq _, stEq _, stEq _, stEq _, stEq _, stEq _, stEq _, stEq _, stEq _, stEq _, stEq _, stEq _, stEq _, stEq _, stEq _, stEq _, trivial⟩)
            (fun _ h => nomatch h) (List.forall_mem_cons.2 ⟨scAny, List.forall_mem_cons.2 ⟨scAny, List.forall_mem_cons.2 ⟨scAny, List.forall_mem_cons.2 ⟨scAny, fun _ h => nomatch h⟩⟩⟩⟩) (fun _ h => nomatch h) bw3.size
            (List.forall_mem_cons.2 ⟨⟨z3_0, by show w.heap.size ≤ w.heap.size; omega⟩, List.forall_mem_cons.2 ⟨⟨z3_1, by show w.heap.size ≤ w.heap.size + 1; omega⟩, List.forall_mem_cons.2 ⟨⟨z3_2, by show w.heap.size ≤ w.heap.size + 1 + 1; omega⟩, List.forall_mem_cons.2 ⟨⟨z3_3, by show w.heap.size ≤ w.heap.size + 1 + 1 + 1; omega⟩, fun _ h => nomatch h⟩⟩⟩⟩) (ownDist (by simp <;> omega))
            (each_of ⟨?_, ?_, ?_, ?_, ?_, ?_, ?_, ?_, ?_, ?_, ?_, ?_, ?_, ?_, ?_, ?_, trivial⟩) ?_
          · exact .inl ⟨by simp, by simp, fun xf wq hk hbl hd K hK => by
              have y : Blk wq w.heap.size 24 #[.bool b, .slice A n c, .slice D m e] := hbl _ (List.Mem.head _) (by simp [Region.binds])
              obtain ⟨hcl0, hcl1, hcl2⟩ := y.c3
              (try dsimp only)
              go_simp
              exact hK.out (.agg #[.bool b, .slice A n c, .slice D m e]) _ rfl (brefl _)⟩
          · exact .inl ⟨by simp, by simp, fun xf wq hk hbl hd K hK => by
              have dq0 : xf 0 = .agg #[.bool b, .slice A n c, .slice D m e] := hd ⟨0, .data⟩ (by simp) rfl
              (try dsimp only); (try simp only [dq0])
              go_simp
              go_at_call 31
              (with_reducible refine (f_valid_e _ b A n c D m e r 12 true ?_ ?_ ?_).mono ?_); (first | exact HD.keep hk | exact HD | fail); (decide); (exact HO.out); rintro e wr ⟨rfl, hbr⟩
              have hz := hK.out (.bool true) _ rfl hbr
              simp only [dq0] at hz
              exact hz⟩
          · exact .inl ⟨by simp, by simp, fun xf wq hk hbl hd K hK => by
              have dq1 : xf 1 = .bool true := hd ⟨1, .data⟩ (by simp) rfl
              (try dsimp only); (try simp only [dq1])
              go_simp
              have hz := hK.out (.bool true) _ rfl (brefl _)
              simp only [dq1] at hz
              exact hz⟩
          · exact .inl ⟨by simp, by simp, fun xf wq hk hbl hd K hK => by
              have dq2 : xf 2 = .bool true := hd ⟨2, .guard⟩ (by simp) rfl
              have y : Blk wq (w.heap.size + 1) 24 #[.bool b', .slice A' n' c', .slice D' m' e'] := hbl _ (List.Mem.tail _ (List.Mem.head _)) (by simp [Region.binds])
              obtain ⟨hcl0, hcl1, hcl2⟩ := y.c3
              (try dsimp only); (try simp only [dq2])
              go_simp
              have hz := hK.out (.agg #[.bool b', .slice A' n' c', .slice D' m' e']) _ rfl (brefl _)
              simp only [dq2] at hz
              exact hz⟩
          · exact .inl ⟨by simp, by simp, fun xf wq hk hbl hd K hK => by
              have dq3 : xf 3 = .agg #[.bool b', .slice A' n' c', .slice D' m' e'] := hd ⟨3, .data⟩ (by simp) rfl
              have dq2 : xf 2 = .bool true := hd ⟨2, .guard⟩ (by simp) rfl
              (try dsimp only); (try simp only [dq3, dq2])
              go_simp
              go_at_call 31
              (with_reducible refine (f_valid_e _ b' A' n' c' D' m' e' r' 12 true ?_ ?_ ?_).mono ?_); (first | exact HD'.keep hk | exact HD' | fail); (decide); (exact HO'.out); rintro e wr ⟨rfl, hbr⟩
              have hz := hK.out (.bool true) _ rfl hbr
              simp only [dq3, dq2] at hz
              exact hz⟩
          · exact .inl ⟨by simp, by simp, fun xf wq hk hbl hd K hK => by
              have dq2 : xf 2 = .bool true := hd ⟨2, .data⟩ (by simp) rfl
              have dq4 : xf 4 = .bool true := hd ⟨4, .data⟩ (by simp) rfl
              (try dsimp only); (try simp only [dq2, dq4])
              go_simp
              have hz := hK.out (.bool true) _ rfl (brefl _)
              simp only [dq2, dq4] at hz
              exact hz⟩
          · exact .inl ⟨by simp, by simp, fun xf wq hk hbl hd K hK => by
              have dq5 : xf 5 = .bool true := hd ⟨5, .data⟩ (by simp) rfl
              (try dsimp only); (try simp only [dq5])
              go_simp
              have hz := hK.out (.bool true) _ rfl (brefl _)
              simp only [dq5] at hz
              exact hz⟩
          · exact .inl ⟨by simp, by simp, fun xf wq hk hbl hd K hK => by
              have dq6 : xf 6 = .bool true := hd ⟨6, .guard⟩ (by simp) rfl
              have y : Blk wq w.heap.size 24 #[.bool b, .slice A n c, .slice D m e] := hbl _ (List.Mem.head _) (by simp [Region.binds])
              obtain ⟨hcl0, hcl1, hcl2⟩ := y.c3
              (try dsimp only); (try simp only [dq6])
              go_simp
              have hz := hK.out (.agg #[.bool b, .slice A n c, .slice D m e]) _ rfl (brefl _)
              simp only [dq6] at hz
              exact hz⟩
          · exact .inl ⟨by simp, by simp, fun xf wq hk hbl hd K hK => by
              have dq6 : xf 6 = .bool true := hd ⟨6, .guard⟩ (by simp) rfl
              have y : Blk wq (w.heap.size + 1) 24 #[.bool b', .slice A' n' c', .slice D' m' e'] := hbl _ (List.Mem.tail _ (List.Mem.head _)) (by simp [Region.binds])
              obtain ⟨hcl0, hcl1, hcl2⟩ := y.c3
              (try dsimp only); (try simp only [dq6])
              go_simp
              have hz := hK.out (.agg #[.bool b', .slice A' n' c', .slice D' m' e']) _ rfl (brefl _)
              simp only [dq6] at hz
              exact hz⟩
          · exact .inl ⟨by simp, by simp, fun xf wq hk hbl hd K hK => by
              have dq7 : xf 7 = .agg #[.bool b, .slice A n c, .slice D m e] := hd ⟨7, .data⟩ (by simp) rfl
              have dq8 : xf 8 = .agg #[.bool b', .slice A' n' c', .slice D' m' e'] := hd ⟨8, .data⟩ (by simp) rfl
              have dq6 : xf 6 = .bool true := hd ⟨6, .guard⟩ (by simp) rfl
              (try dsimp only); (try simp only [dq7, dq8, dq6])
              go_simp
              go_at_call 41
              (with_reducible refine (f_cmp_v _ b A n c D m e (q) (12) ?_ b' A' n' c' D' m' e' (q') (12) ?_ u HU.out ?_ ?_ ?_ ?_).mono ?_); (exact (HW.keep hk).qz); (exact (HW'.keep hk).qz); (first | omega | decide | assumption); (first | omega | decide | assumption); (first | omega | decide | assumption); (first | omega | decide | assumption); rintro e wr ⟨rfl, hbr⟩
              have hz := hK.out (.int .i64 u) _ rfl hbr
              simp only [dq7, dq8, dq6] at hz
              exact hz⟩
          · exact .inl ⟨by simp, by simp, fun xf wq hk hbl hd K hK => by
              have dq9 : xf 9 = .int .i64 u := hd ⟨9, .data⟩ (by simp) rfl
              have dq6 : xf 6 = .bool true := hd ⟨6, .guard⟩ (by simp) rfl
              (try dsimp only); (try simp only [dq9, dq6])
              go_simp
              have hz := hK.out (.bool false) _ rfl (brefl _)
              simp only [dq9, dq6] at hz
              exact hz⟩
          · exact .inl ⟨by simp, by simp, fun xf wq hk hbl hd K hK => by
              have dq6 : xf 6 = .bool true := hd ⟨6, .guard⟩ (by simp) rfl
              have y : Blk wq w.heap.size 24 #[.bool b, .slice A n c, .slice D m e] := hbl _ (List.Mem.head _) (by simp [Region.binds])
              obtain ⟨hcl0, hcl1, hcl2⟩ := y.c3
              (try dsimp only); (try simp only [dq6])
              go_simp
              have hz := hK.out (.agg #[.bool b, .slice A n c, .slice D m e]) _ rfl (brefl _)
              simp only [dq6] at hz
              exact hz⟩
          · exact .inl ⟨by simp, by simp, fun xf wq hk hbl hd K hK => by
              have dq6 : xf 6 = .bool true := hd ⟨6, .guard⟩ (by simp) rfl
              have y : Blk wq (w.heap.size + 1) 24 #[.bool b', .slice A' n' c', .slice D' m' e'] := hbl _ (List.Mem.tail _ (List.Mem.head _)) (by simp [Region.binds])
              obtain ⟨hcl0, hcl1, hcl2⟩ := y.c3
              (try dsimp only); (try simp only [dq6])
              go_simp
              have hz := hK.out (.agg #[.bool b', .slice A' n' c', .slice D' m' e']) _ rfl (brefl _)
              simp only [dq6] at hz
              exact hz⟩
          · exact .inl ⟨by simp, by simp, fun xf wq hk hbl hd K hK => by
              have dq11 : xf 11 = .agg #[.bool b, .slice A n c, .slice D m e] := hd ⟨11, .data⟩ (by simp) rfl
              have dq12 : xf 12 = .agg #[.bool b', .slice A' n' c', .slice D' m' e'] := hd ⟨12, .data⟩ (by simp) rfl
              have dq6 : xf 6 = .bool true := hd ⟨6, .guard⟩ (by simp) rfl
              (try dsimp only); (try simp only [dq11, dq12, dq6])
              go_simp
              go_at_call 33
              (with_reducible refine (rs_ne _ b A n c D m e (q) (12) ?_ b' A' n' c' D' m' e' (q') (12) ?_  ?_ ?_ ?_).mono ?_); (exact (HW.keep hk)); (exact (HW'.keep hk)); (exact HE.out); (omega); (omega); rintro e wr ⟨rfl, hbr⟩
              have hz := hK.out (.bool false) _ rfl hbr
              simp only [dq11, dq12, dq6] at hz
              exact hz⟩
          · exact .inl ⟨by simp, by simp, fun xf wq hk hbl hd K hK => by
              have dq10 : xf 10 = .bool false := hd ⟨10, .data⟩ (by simp) rfl
              have dq13 : xf 13 = .bool false := hd ⟨13, .data⟩ (by simp) rfl
              have dq6 : xf 6 = .bool true := hd ⟨6, .guard⟩ (by simp) rfl
              (try dsimp only); (try simp only [dq10, dq13, dq6])
              go_simp
              have hz := hK.out (.bool false) _ rfl (brefl _)
              simp only [dq10, dq13, dq6] at hz
              exact hz⟩
          · exact .inl ⟨by simp, by simp, fun xf wq hk hbl hd K hK => by
              have dq6 : xf 6 = .bool true := hd ⟨6, .data⟩ (by simp) rfl
              have dq14 : xf 14 = .bool false := hd ⟨14, .data⟩ (by simp) rfl
              (try dsimp only); (try simp only [dq6, dq14])
              go_simp
              have hz := hK.out (.bool false) _ rfl (brefl _)
              simp only [dq6, dq14] at hz
              exact hz⟩
          clear cz3_0_0 cz3_0_1 cz3_0_2 lz3_0_0 lz3_0_1 lz3_0_2 lz3_0_3 cz3_1_0 cz3_1_1 cz3_1_2 lz3_1_0 lz3_1_1 lz3_1_2 lz3_1_3
          intro y16 w16 kq16 hbl16 lw16 how hrr hfl hds
          replace H := H.keep kq16
          replace H' := H'.keep kq16
          replace H2 := H2.keep kq16
          replace HD := HD.keep kq16
          replace HD' := HD'.keep kq16
          replace HW := HW.keep kq16
          replace HW' := HW'.keep kq16
          obtain ⟨_, z16_0, ez, _⟩ := how _ (List.Mem.head _)
          obtain rfl := ez (by simp)
          dsimp only at z16_0
          obtain ⟨_, z16_1, ez, _⟩ := how _ (List.Mem.tail _ (List.Mem.head _))
          obtain rfl := ez (by simp)
          dsimp only at z16_1
          obtain ⟨_, z16_2, ez, _⟩ := how _ (List.Mem.tail _ (List.Mem.tail _ (List.Mem.head _)))
          obtain rfl := ez (by simp)
          dsimp only at z16_2
          obtain ⟨_, z16_3, ez, _⟩ := how _ (List.Mem.tail _ (List.Mem.tail _ (List.Mem.tail _ (List.Mem.head _))))
          obtain rfl := ez (by simp)
          dsimp only at z16_3
          have ea15 : y16 15 = .bool false := hrr 15 (by simp)
          (try dsimp only)
          simp only [ea15]
          clear hrr hfl how hds ea15
          clear z3_0 z3_1 z3_2 z3_3
          have bw16 := bw3.trans hbl16
          clear bw3
          obtain ⟨cz16_0_0, cz16_0_1, cz16_0_2⟩ := z16_0.c3
          obtain ⟨lz16_0_0, lz16_0_1, lz16_0_2, lz16_0_3⟩ := lts0 z16_0.lt
          obtain ⟨cz16_1_0, cz16_1_1, cz16_1_2⟩ := z16_1.c3
          obtain ⟨lz16_1_0, lz16_1_1, lz16_1_2, lz16_1_3⟩ := lts1 z16_1.lt
          go_wp2_with fail
          by_cases g1 : 0 < u
          · (with_reducible refine (f_cmp_v _ b A n c D m e (q) (12) ?_ b' A' n' c' D' m' e' (q') (12) ?_ u HU.out ?_ ?_ ?_ ?_).mono ?_); (exact HW.qz); (exact HW'.qz); (first | omega | decide | assumption); (first | omega | decide | assumption); (first | omega | decide | assumption); (first | omega | decide | assumption); rintro e w22 ⟨rfl, q22⟩
            clear cz16_0_0 cz16_0_1 cz16_0_2 lz16_0_0 lz16_0_1 lz16_0_2 lz16_0_3 cz16_1_0 cz16_1_1 cz16_1_2 lz16_1_0 lz16_1_1 lz16_1_2 lz16_1_3
            replace H := H.belw q22
            replace H' := H'.belw q22
            replace H2 := H2.belw q22
            replace HD := HD.belw q22
            replace HD' := HD'.belw q22
            replace HW := HW.belw q22
            replace HW' := HW'.belw q22
            replace z16_0 := z16_0.b q22
            replace z16_1 := z16_1.b q22
            replace z16_2 := z16_2.b q22
            replace z16_3 := z16_3.b q22
            have bw22 := bw16.trans (q22.mono bw16.size)
            have lw22 := q22.size
            clear q22 bw16
            go_wp2_with fail
            go_ret
            exact retB rfl bw22
          · by_cases g2 : 0 < v
            · (with_reducible refine (f_cmp_v _ b A n c D m e (q) (12) ?_ b' A' n' c' D' m' e' (q') (12) ?_ u HU.out ?_ ?_ ?_ ?_).mono ?_); (exact HW.qz); (exact HW'.qz); (first | omega | decide | assumption); (first | omega | decide | assumption); (first | omega | decide | assumption); (first | omega | decide | assumption); rintro e w22 ⟨rfl, q22⟩
              clear cz16_0_0 cz16_0_1 cz16_0_2 lz16_0_0 lz16_0_1 lz16_0_2 lz16_0_3 cz16_1_0 cz16_1_1 cz16_1_2 lz16_1_0 lz16_1_1 lz16_1_2 lz16_1_3
              replace H := H.belw q22
              replace H' := H'.belw q22
              replace H2 := H2.belw q22
              replace HD := HD.belw q22
              replace HD' := HD'.belw q22
              replace HW := HW.belw q22
              replace HW' := HW'.belw q22
              replace z16_0 := z16_0.b q22
              replace z16_1 := z16_1.b q22
              replace z16_2 := z16_2.b q22
              replace z16_3 := z16_3.b q22
              have bw22 := bw16.trans (q22.mono bw16.size)
              have lw22 := q22.size
              clear q22 bw16
              obtain ⟨cz16_1_0, cz16_1_1, cz16_1_2⟩ := z16_1.c3
              obtain ⟨lz16_1_0, lz16_1_1, lz16_1_2, lz16_1_3⟩ := lts1 z16_1.lt
              obtain ⟨cz16_2_0, cz16_2_1, cz16_2_2⟩ := z16_2.c3
              obtain ⟨lz16_2_0, lz16_2_1, lz16_2_2, lz16_2_3⟩ := lts2 z16_2.lt
              go_wp2_with fail
              (with_reducible refine (f_cmp_v _ b' A' n' c' D' m' e' (q') (12) ?_ b2 A2 n2 c2 D2 m2 e2 (q2) (12) ?_ v HV.out ?_ ?_ ?_ ?_).mono ?_); (exact HW'.qz); (exact H2); (first | omega | decide | assumption); (first | omega | decide | assumption); (first | omega | decide | assumption); (first | omega | decide | assumption); rintro e w23 ⟨rfl, q23⟩
              clear cz16_1_0 cz16_1_1 cz16_1_2 lz16_1_0 lz16_1_1 lz16_1_2 lz16_1_3 cz16_2_0 cz16_2_1 cz16_2_2 lz16_2_0 lz16_2_1 lz16_2_2 lz16_2_3
              replace H := H.belw q23
              replace H' := H'.belw q23
              replace H2 := H2.belw q23
              replace HD := HD.belw q23
              replace HD' := HD'.belw q23
              replace HW := HW.belw q23
              replace HW' := HW'.belw q23
              replace z16_0 := z16_0.b q23
              replace z16_1 := z16_1.b q23
              replace z16_2 := z16_2.b q23
              replace z16_3 := z16_3.b q23
              have bw23 := bw22.trans (q23.mono bw22.size)
              have lw23 := q23.size
              clear q23 bw22
              go_wp2_with fail
              go_ret
              exact retB rfl bw23
            · have g3 := HT.out (by omega) (by omega)
              (with_reducible refine (f_cmp_v _ b A n c D m e (q) (12) ?_ b' A' n' c' D' m' e' (q') (12) ?_ u HU.out ?_ ?_ ?_ ?_).mono ?_); (exact HW.qz); (exact HW'.qz); (first | omega | decide | assumption); (first | omega | decide | assumption); (first | omega | decide | assumption); (first | omega | decide | assumption); rintro e w22 ⟨rfl, q22⟩
              clear cz16_0_0 cz16_0_1 cz16_0_2 lz16_0_0 lz16_0_1 lz16_0_2 lz16_0_3 cz16_1_0 cz16_1_1 cz16_1_2 lz16_1_0 lz16_1_1 lz16_1_2 lz16_1_3
              replace H := H.belw q22
              replace H' := H'.belw q22
              replace H2 := H2.belw q22
              replace HD := HD.belw q22
              replace HD' := HD'.belw q22
              replace HW := HW.belw q22
              replace HW' := HW'.belw q22
              replace z16_0 := z16_0.b q22
              replace z16_1 := z16_1.b q22
              replace z16_2 := z16_2.b q22
              replace z16_3 := z16_3.b q22
              have bw22 := bw16.trans (q22.mono bw16.size)
              have lw22 := q22.size
              clear q22 bw16
              obtain ⟨cz16_1_0, cz16_1_1, cz16_1_2⟩ := z16_1.c3
              obtain ⟨lz16_1_0, lz16_1_1, lz16_1_2, lz16_1_3⟩ := lts1 z16_1.lt
              obtain ⟨cz16_2_0, cz16_2_1, cz16_2_2⟩ := z16_2.c3
              obtain ⟨lz16_2_0, lz16_2_1, lz16_2_2, lz16_2_3⟩ := lts2 z16_2.lt
              go_wp2_with fail
              (with_reducible refine (f_cmp_v _ b' A' n' c' D' m' e' (q') (12) ?_ b2 A2 n2 c2 D2 m2 e2 (q2) (12) ?_ v HV.out ?_ ?_ ?_ ?_).mono ?_); (exact HW'.qz); (exact H2); (first | omega | decide | assumption); (first | omega | decide | assumption); (first | omega | decide | assumption); (first | omega | decide | assumption); rintro e w23 ⟨rfl, q23⟩
              clear cz16_1_0 cz16_1_1 cz16_1_2 lz16_1_0 lz16_1_1 lz16_1_2 lz16_1_3 cz16_2_0 cz16_2_1 cz16_2_2 lz16_2_0 lz16_2_1 lz16_2_2 lz16_2_3
              replace H := H.belw q23
              replace H' := H'.belw q23
              replace H2 := H2.belw q23
              replace HD := HD.belw q23
              replace HD' := HD'.belw q23
              replace HW := HW.belw q23
              replace HW' := HW'.belw q23
              replace z16_0 := z16_0.b q23
              replace z16_1 := z16_1.b q23
              replace z16_2 := z16_2.b q23
              replace z16_3 := z16_3.b q23
              have bw23 := bw22.trans (q23.mono bw22.size)
              have lw23 := q23.size
              clear q23 bw22
              obtain ⟨cz16_0_0, cz16_0_1, cz16_0_2⟩ := z16_0.c3
              obtain ⟨lz16_0_0, lz16_0_1, lz16_0_2, lz16_0_3⟩ := lts0 z16_0.lt
              obtain ⟨cz16_2_0, cz16_2_1, cz16_2_2⟩ := z16_2.c3
              obtain ⟨lz16_2_0, lz16_2_1, lz16_2_2, lz16_2_3⟩ := lts2 z16_2.lt
              go_wp2_with fail
              (with_reducible refine (f_cmp_v _ b A n c D m e (q) (12) ?_ b2 A2 n2 c2 D2 m2 e2 (q2) (12) ?_ x HX.out ?_ ?_ ?_ ?_).mono ?_); (exact HW.qz); (exact H2); (first | omega | decide | assumption); (first | omega | decide | assumption); (first | omega | decide | assumption); (first | omega | decide | assumption); rintro e w24 ⟨rfl, q24⟩
              clear cz16_0_0 cz16_0_1 cz16_0_2 lz16_0_0 lz16_0_1 lz16_0_2 lz16_0_3 cz16_2_0 cz16_2_1 cz16_2_2 lz16_2_0 lz16_2_1 lz16_2_2 lz16_2_3
              replace H := H.belw q24
              replace H' := H'.belw q24
              replace H2 := H2.belw q24
              replace HD := HD.belw q24
              replace HD' := HD'.belw q24
              replace HW := HW.belw q24
              replace HW' := HW'.belw q24
              replace z16_0 := z16_0.b q24
              replace z16_1 := z16_1.b q24
              replace z16_2 := z16_2.b q24
              replace z16_3 := z16_3.b q24
              have bw24 := bw23.trans (q24.mono bw23.size)
              have lw24 := q24.size
              clear q24 bw23
              go_wp2_with fail
              go_ret
              exact retB rfl bw24
end Go.Proofs.YtkpjhmpjihchpaaGreatDoor

/- FractionOrder: a total order that agrees with sums and products; for every input the law returns true. The listed library variables are tied to the program text. -/
namespace Go.Proofs.YtkpjhmpjihchpaaGreatDoor
open Go Go.RowKit Bn Go.ChangeShapes Go.WideShapes Go.ChangeAt
theorem order_contract (H : Type) (enc : TypeId × Value → H) (W : World) (base : Nat) (args : Array Value) (ds gs : List (DataW H)) (before : List MemPlace)
    (hval0 : ∀ (j : Nat) t v, Tryz.f7.params[j]? = some t → args[j]? = some v → Value.okWide Tryz.prog W .any base t v)
    (hW : DataW.Whole enc Tryz.prog Tryz.f7.params.toList Rows.fractionOrderSpec.vars false W args.toList ds gs before) (hL : laidMetH Tryz.prog Rows.fractionOrderRow.laid W) (hsh : W.ShapedOpen Tryz.prog) :
    Calls Tryz.prog 7 args W fun e W' => ∃ v, e = .returned v ∧ Rows.fractionOrderSpec.post enc Tryz.prog Tryz.f7 false true false false W args v W' := by
  have hval : ∀ (j : Nat) t v, Tryz.f7.params[j]? = some t → args[j]? = some v → Value.okWide Tryz.prog W .any base t v := hval0
  have htab : Tab W := tab_of_laid hL
  have hmx : Mx W := mx_of_shaped hsh
  have hW' := hW
  obtain ⟨p, q, hA0, hV, rfl, hfz, hnd⟩ := hW
  have hA : DataW.TrodAll enc Tryz.prog W 0 (fun _ => true) true Tryz.f7.params.toList args.toList ds p := hA0
  rw [Tryz.params7] at hA hval
  obtain ⟨v0, v1, v2, d0, d1, d2, p0, p1, p2, rfl, rfl, rfl, h0, h1, h2⟩ := trodAll_three hA
  obtain ⟨rfl, rfl⟩ := trodVars_none hV
  obtain ⟨b, A, n, c, D, m, e, r, k, rfl, H⟩ := frac_open (hval 0 _ v0 rfl rfl) h0
  obtain ⟨b', A', n', c', D', m', e', r', k', rfl, H'⟩ := frac_open (hval 1 _ v1 rfl rfl) h1
  obtain ⟨b2, A2, n2, c2, D2, m2, e2, r2, k2, rfl, H2⟩ := frac_open (hval 2 _ v2 rfl rfl) h2
  refine (l_FractionOrder W b A n c D m e r k H b' A' n' c' D' m' e' r' k' H' b2 A2 n2 c2 D2 m2 e2 r2.q k2 ⟨r2, H2, rfl⟩ htab hmx).mono fun e W' ⟨he, hb⟩ => ?_
  subst he
  exact ⟨_, rfl, law_post laid_out Tryz.underlying4 hW' rfl rfl (by kernel_rfl) rfl rfl rfl hb⟩
theorem order_lifted (os : Os) (started : os.Started) (H : Type) (enc : TypeId × Value → H) (F : Stop.Interp) :
    ReturnsInHanded {} Tryz.checked os 7 .any ((OpenSpec.ofChange Rows.fractionOrderSpec).preRow enc Tryz.prog Tryz.f7 Rows.fractionOrderRow.domain false Rows.fractionOrderRow.laid) (((OpenSpec.ofChange Rows.fractionOrderSpec).at F).post enc Tryz.prog Tryz.f7 false true false false) := by
  have hx : DataW.whole enc Tryz.prog ((laidWorld os).forCall (fun _ _ => 0) ⟨#[], #[.agg #[.bool false, .slice none 0 0, .slice none 0 0], .agg #[.bool false, .slice none 0 0, .slice none 0 0], .agg #[.bool false, .slice none 0 0, .slice none 0 0]], []⟩).memory Tryz.f7.params.toList Rows.fractionOrderSpec.vars false (#[.agg #[.bool false, .slice none 0 0, .slice none 0 0], .agg #[.bool false, .slice none 0 0, .slice none 0 0], .agg #[.bool false, .slice none 0 0, .slice none 0 0]] : Array Value).toList 8 = some ([.agg [.lit (.bool false), .nil, .nil], .agg [.lit (.bool false), .nil, .nil], .agg [.lit (.bool false), .nil, .nil]], [], []) := by kernel_rfl
  have hl : laidMet Tryz.prog Rows.fractionOrderRow.laid ((laidWorld os).forCall (fun _ _ => 0) ⟨#[], #[.agg #[.bool false, .slice none 0 0, .slice none 0 0], .agg #[.bool false, .slice none 0 0, .slice none 0 0], .agg #[.bool false, .slice none 0 0, .slice none 0 0]], []⟩).memory := laidMet_of_run' 8 (by kernel_rfl) (by kernel_rfl)
  refine returnsInHanded_of_row (C := Tryz.checked) (s := OpenSpec.ofChange Rows.fractionOrderSpec) own_knob started (by kernel_rfl) Tryz.func7
    (witness_row_at (enc := enc) (C := Tryz.checked) false (laidWorld os) #[.agg #[.bool false, .slice none 0 0, .slice none 0 0], .agg #[.bool false, .slice none 0 0, .slice none 0 0], .agg #[.bool false, .slice none 0 0, .slice none 0 0]] rfl (by kernel_rfl) (by kernel_rfl) (by kernel_rfl)
      (OpenSpec.preRow_of_cond 8 hx (by kernel_rfl) (fun k hk => by cases hk) (by kernel_rfl) hl)) ?_
  intro W base args ds gs before hval hW _ _ _ hL hsh _
  exact order_contract H enc W base args ds gs before hval hW hL hsh
theorem order_j2 : (Rows.fractionOrderRow.inPlace == Tryz.pinned.checked.prog.inPlace 7) = true := by kernel_rfl
theorem order_j3 : (Rows.fractionOrderRow.unfollowed == Tryz.pinned.checked.prog.unfollowed 7) = true := by kernel_rfl
theorem order_j4 : (Rows.fractionOrderRow.recurses == Tryz.pinned.checked.prog.recurses 7) = true := by kernel_rfl
theorem order_j5 : (Rows.fractionOrderRow.named == Tryz.pinned.checked.prog.varsNamed 7) = true := by kernel_rfl
theorem order_joined : joinedFacts Tryz.pinned.checked.prog 7 Tryz.f7 (OpenSpec.ofChange Rows.fractionOrderSpec).bare Rows.fractionOrderRow = true := joined_parts (by kernel_rfl) order_j2 order_j3 order_j4 order_j5 (by kernel_rfl)
theorem order_inst : Tryz.f7.isInstance Tryz.pinned.checked.prog Rows.fractionOrderRow.origin Rows.fractionOrderRow.targs := of_decide_eq_true (by kernel_rfl)
theorem order_said : Rows.FractionOrderSaid :=
  OpenClaim.holds_of_cond 7 Tryz.f7 rfl rfl rfl rfl rfl rfl rfl ⟨rfl, rfl, rfl, rfl, rfl⟩ rfl rfl rfl rfl rfl (by kernel_rfl) Tryz.func7 order_joined
    order_inst (by unfold Func.isWrapper; first | (rw [if_pos (by decide +kernel)]; kernel_rfl) | (rw [if_neg (by decide +kernel)]; exact ⟨rfl, rfl⟩))
    (fun os started H enc _ F => by rw [OpenClaim.pre_eq_preRow]; exact order_lifted os started H enc F)
theorem order_plain (f : FuncId) (fn : Func) (hf : Tryz.pinned.checked.prog.funcNamed "linkwork/linkworklaw02.FractionOrder" = some f) (hfn : Tryz.pinned.checked.prog.funcs[f]? = some fn) :
    true = Tryz.pinned.checked.prog.looks [] ∧ ∀ (j : Nat) t, fn.params[j]? = some t → Tryz.pinned.checked.prog.wantsStandIn t = false := by
  obtain rfl : f = 7 := Option.some.inj ((show Tryz.prog.funcNamed "linkwork/linkworklaw02.FractionOrder" = some 7 by kernel_rfl).symm.trans hf) |>.symm
  obtain rfl : fn = Tryz.f7 := (Option.some.inj (Tryz.func7.symm.trans hfn)).symm
  refine ⟨by kernel_rfl, fun j t ht => ?_⟩
  rw [Tryz.params7] at ht
  have hm : t ∈ [24] := by
    have := Array.mem_of_getElem? ht
    simp at this ⊢
    first
      | exact this
      | exact .inl this
  have hall : ([24].all fun u => !Tryz.prog.wantsStandIn u) = true := by kernel_rfl
  exact (show Tryz.prog.wantsStandIn t = false by simpa using List.all_eq_true.1 hall t hm)
theorem order_holds : Rows.FractionOrderCardSaid :=
  Claim7.holds_tied_plain_at .later [] _ _ _ _ order_said (fun _ h => by cases h) (by kernel_rfl) (fun _ h => by cases h) fractionOrder_row_tie rfl ⟨rfl, rfl⟩ (by kernel_rfl) rfl order_plain (by kernel_rfl)
end Go.Proofs.YtkpjhmpjihchpaaGreatDoor
