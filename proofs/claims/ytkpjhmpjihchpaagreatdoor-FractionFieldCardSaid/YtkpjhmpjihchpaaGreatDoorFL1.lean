/- FractionField: the laws of sums, products and quotients of fractions; for every input the law returns true. The listed library variables are tied to the program text. -/
import Derived.Below
import Derived.Laws.OwnMore
import Derived.Deep.Draws
import Derived.OneCell
import Derived.Laws.Rows
import Derived.Test.YtkpjhmpjihchpaaGreatDoorProg
import Derived.WalkKit
import Derived.WalkSpells
import Derived.WalkLawsBesides
import Derived.BigQuiet
import Derived.Deep.QuietTactic
import Derived.Deep.AppendLies
import Derived.Lib.Hide
import Derived.Deep.RegionHeld3
import Derived.Deep.DrawnRows
import Derived.Shelf.Strings.Builder1
import Derived.Shelf.Strings.Builder2
import Derived.Shelf.Strings.OnBuilder
import Derived.Shelf.Strings.Trim
import Derived.Shelf.Small.Utf8
import Derived.Shelf.Small.Bits
import Derived.Shelf.Small.Strs
import Derived.Shelf.Strings.BuilderF
import Derived.Shelf.Strconv.Atoi
import Derived.Shelf.Strconv.Itoa0
import Derived.Shelf.Strconv.Itoa1
import Derived.Shelf.LaysM
import Derived.Shelf.Strconv.Itoa2
import Derived.Shelf.Strconv.Itoa3
import Derived.Shelf.Strings.Search1
import Derived.Shelf.Strings.Search2
import Derived.Shelf.Strings.Cut
import Derived.Shelf.Strings.Shaped
import Derived.Shelf.Strings.Prefix
import Derived.Shelf.Strings.Runes
import Derived.Shelf.Strings.AsciiSet
import Derived.Shelf.Bits.Mul64
import Derived.Shelf.Strings.Repeat
import Derived.Shelf.Unicode.DecodeSlow
import Derived.IntWalk
import Derived.Deep.DeepCutAuto
import Derived.Deep.RegionHeld
import Derived.Lib.ItoaNum
import Derived.Lib.ItoaMem
import Derived.Lib.Repeat
import Derived.Lib.Join
import Derived.Lib.IndexMore
import Derived.Lib.AppendIntMem
import Derived.Lib.Atoi
import Derived.Lib.SlTrimSet
import Derived.Shelf.Strings.SlTrimAscii
import Derived.Test.YtkpjhmpjihchpaaGreatDoorCards
import Derived.Test.YtkpjhmpjihchpaaGreatDoorTie
import Derived.ProofKit
import Derived.OpenShut
import Derived.Deep.DeepHandedRow
import Derived.Lib.LaidTab
import Derived.Shelf.Vars
import Derived.ChangeMaps5
import Derived.Test.YtkpjhmpjihchpaaGreatDoorA4
set_option linter.unusedVariables false
set_option maxHeartbeats 8000000
set_option maxRecDepth 100000
namespace Bn
theorem add_q (a b : Rat) : a + b = Rat.divInt (a.num * b.den + b.num * a.den) (a.den * b.den) := by
  conv => lhs; rw [q_eq a, q_eq b]
  exact Rat.divInt_add_divInt _ _ (den_ne a) (den_ne b)
theorem neg_q (a : Rat) : -a = Rat.divInt (-a.num) a.den := by
  conv => lhs; rw [q_eq a]
  exact Rat.neg_divInt _ _
theorem div_q (a b : Rat) (hb : b ≠ 0) : a / b = Rat.divInt (a.num * b.den) (a.den * b.num) := by
  have hb' : b.num ≠ 0 := fun h => hb (Rat.num_eq_zero.1 h)
  have h1 : a / b = ((a.num : Rat) / (a.den : Rat)) / ((b.num : Rat) / (b.den : Rat)) := by
    conv => lhs; rw [q_eq a, q_eq b]
    rw [Rat.divInt_eq_div, Rat.divInt_eq_div]; rfl
  rw [h1, Rat.divInt_eq_div]
  have ha : (a.den : Rat) ≠ 0 := by have := a.den_nz; exact_mod_cast this
  have hbd : (b.den : Rat) ≠ 0 := by have := b.den_nz; exact_mod_cast this
  have hbn : (b.num : Rat) ≠ 0 := by exact_mod_cast hb'
  push_cast
  grind
theorem cmp_q (a b : Rat) : (a.num * b.den < b.num * a.den ↔ a < b) ∧ (a.num * b.den = b.num * a.den ↔ a = b) := by
  refine ⟨(Rat.lt_iff a b).symm, ?_⟩
  constructor
  · intro h
    rw [q_eq a, q_eq b]
    exact (Rat.divInt_eq_divInt_iff (den_ne a) (den_ne b)).2 h
  · rintro rfl; rfl

theorem Sz_add {a b : Rat} {i j : Nat} (ha : Sz a i) (hb : Sz b j) : Sz (a + b) (i + j + 1) := by
  rw [add_q]
  have h1 := natAbs_mul_lt ha.1 (b := (b.den : Int)) (by simpa using hb.2)
  have h2 := natAbs_mul_lt hb.1 (b := (a.den : Int)) (by simpa using ha.2)
  rw [Nat.add_comm j i] at h2
  have h3 := natAbs_mul_lt (a := (a.den : Int)) (b := (b.den : Int)) (by simpa using ha.2) (by simpa using hb.2)
  exact Sz_divInt (natAbs_add_lt h1 h2) (Nat.lt_of_lt_of_le h3 (Nat.pow_le_pow_right (by omega) (by omega))) (by omega)
theorem Sz_neg {a : Rat} {i : Nat} (ha : Sz a i) : Sz (-a) i := by
  refine ⟨?_, ?_⟩
  · rw [Rat.neg_num]; have := ha.1; omega
  · have : (-a).den = a.den := rfl
    rw [this]; exact ha.2
theorem Sz_div {a b : Rat} {i j : Nat} (ha : Sz a i) (hb : Sz b j) (h0 : b ≠ 0) : Sz (a / b) (i + j) := by
  rw [div_q a b h0]
  have := ha.pos
  exact Sz_divInt (natAbs_mul_lt ha.1 (by simpa using hb.2)) (natAbs_mul_lt (by simpa using ha.2) hb.1) (by omega)
end Bn

namespace Go.Proofs.YtkpjhmpjihchpaaGreatDoor
open Go Go.RowKit Bn
attribute [local go_sem ↓] Go.wp_at_zero Go.wp_at_succ
theorem f_sign (w : World) (b : Bool) (A : Option Addr) (n c : Nat) (D : Option Addr) (m e : Nat) (q : Rat) (k : Nat) (h : QZ w b A n c D m e q k) (h0 : 0 < k) (hk : k ≤ 40000000) :
  Calls Tryz.prog 44 #[.agg #[.bool b, .slice A n c, .slice D m e]] w (RetV w (.int .i64 q.num.sign)) := by
 go_enter Tryz.func44, Tryz.ntmps44
 go_wp2_with fail
 (with_reducible refine (f_parts _ b A n c D m e (q) (k) ?_ ?_ ?_).mono ?_); (exact (h.belw ((Below.refl _ _).alloc (Nat.le_refl _) _))); (first | omega | decide | assumption); (first | omega | decide | assumption); rintro e w1 ⟨b1, A1, n1, c1, b'1, A'1, n'1, c'1, rfl, h1, h'1, hb1⟩
 have q1 := ((Below.refl _ _).alloc (Nat.le_refl _) _).trans (hb1.mono (by simp))
 replace h := h.belw q1
 have x1a : Blk w1 w.heap.size 24 #[.bool b, .slice A n c, .slice D m e] := (blkAt _ _ _ (by simp)).below hb1 (by simp)
 have bw1 := (brefl w).trans (q1.mono (brefl w).size)
 have lw1 : w.heap.size + 1 ≤ w1.heap.size := by have := hb1.size; simp at this; omega
 clear q1
 go_wp2_with fail
 (with_reducible refine (i_sign _ b1 A1 n1 c1 ((q).num) ((k)) ?_ ?_).mono ?_); (exact (h1.belw (((Below.refl _ _).alloc (Nat.le_refl _) _).alloc (by simp) _)).iz); (first | omega | decide | assumption); rintro e w2 ⟨rfl, hb2⟩
 have q2 := (((Below.refl _ _).alloc (Nat.le_refl _) _).alloc (by simp) _).trans (hb2.mono (by simp <;> omega))
 replace h := h.belw q2
 replace h1 := h1.belw q2
 replace h'1 := h'1.belw q2
 replace x1a := x1a.b q2
 have x2a : Blk w2 w1.heap.size 46 #[.bool b1, .slice A1 n1 c1] := ((blkAt _ _ _ (by simp)).alloc _).below hb2 (by simp <;> omega)
 have x2b := (blkAt _ _ _ (g := w1.heap.size + 1) (by simp)).below hb2 (by simp)
 have bw2 := bw1.trans (q2.mono bw1.size)
 have lw2 : w1.heap.size + 2 ≤ w2.heap.size := by have := hb2.size; simp at this; omega
 clear q2 bw1
 go_wp2_with fail
 go_ret
 exact retI rfl bw2
theorem f_neg (w : World) (b : Bool) (A : Option Addr) (n c : Nat) (D : Option Addr) (m e : Nat) (q : Rat) (k : Nat) (h : QZ w b A n c D m e q k) (h0 : 0 < k) (hk : k ≤ 40000000) :
    Calls Tryz.prog 62 #[.agg #[.bool b, .slice A n c, .slice D m e]] w (RetF w (-q) k) := by
  have HS := Lib.hid (h.sz h0)
  go_enter Tryz.func62, Tryz.ntmps62
  go_wp2_with fail
  (with_reducible refine (f_parts _ b A n c D m e (q) (k) ?_ ?_ ?_).mono ?_); (exact (h.belw (((Below.refl _ _).alloc (Nat.le_refl _) _).alloc (by simp) _))); (first | omega | decide | assumption); (first | omega | decide | assumption); rintro e w1 ⟨b1, A1, n1, c1, b'1, A'1, n'1, c'1, rfl, h1, h'1, hb1⟩
  have q1 := (((Below.refl _ _).alloc (Nat.le_refl _) _).alloc (by simp) _).trans (hb1.mono (by simp <;> omega))
  replace h := h.belw q1
  have x1a : Blk w1 w.heap.size 24 #[.bool b, .slice A n c, .slice D m e] := ((blkAt _ _ _ (by simp)).alloc _).below hb1 (by simp <;> omega)
  have x1b := (blkAt _ _ _ (g := w.heap.size + 1) (by simp)).below hb1 (by simp)
  have bw1 := (brefl w).trans (q1.mono (brefl w).size)
  have lw1 : w.heap.size + 2 ≤ w1.heap.size := by have := hb1.size; simp at this; omega
  clear q1
  go_wp2_with fail
  have p2 := (((Kp.refl w1).alloc (.cells #[.bool b1, .slice A1 n1 c1] 46)).alloc (.cells #[.bool b'1, .slice A'1 n'1 c'1] 46))
  have bw2 := ((bw1.alloc (by first | omega | (simp <;> omega)) (.cells #[.bool b1, .slice A1 n1 c1] 46)).alloc (by first | omega | (simp <;> omega)) (.cells #[.bool b'1, .slice A'1 n'1 c'1] 46))
  have x2a : Blk ((w1.alloc (.cells #[.bool b1, .slice A1 n1 c1] 46)).alloc (.cells #[.bool b'1, .slice A'1 n'1 c'1] 46)) w1.heap.size 46 #[.bool b1, .slice A1 n1 c1] := ((blkAt _ _ _ (by simp)).alloc (.cells #[.bool b'1, .slice A'1 n'1 c'1] 46))
  have x2b : Blk ((w1.alloc (.cells #[.bool b1, .slice A1 n1 c1] 46)).alloc (.cells #[.bool b'1, .slice A'1 n'1 c'1] 46)) (w1.heap.size + 1) 46 #[.bool b'1, .slice A'1 n'1 c'1] := (blkAt _ _ _ (by simp))
  replace x1a := ((x1a.alloc (.cells #[.bool b1, .slice A1 n1 c1] 46)).alloc (.cells #[.bool b'1, .slice A'1 n'1 c'1] 46))
  replace x1b := ((x1b.alloc (.cells #[.bool b1, .slice A1 n1 c1] 46)).alloc (.cells #[.bool b'1, .slice A'1 n'1 c'1] 46))
  have lw2 : w1.heap.size + 2 ≤ ((w1.alloc (.cells #[.bool b1, .slice A1 n1 c1] 46)).alloc (.cells #[.bool b'1, .slice A'1 n'1 c'1] 46)).heap.size := by simp
  generalize hE2 : ((w1.alloc (.cells #[.bool b1, .slice A1 n1 c1] 46)).alloc (.cells #[.bool b'1, .slice A'1 n'1 c'1] 46)) = w2 at p2 bw2 lw2 x2a x2b x1a x1b ⊢
  clear hE2
  replace h := h.keep p2
  replace h1 := h1.keep p2
  replace h'1 := h'1.keep p2
  clear bw1
  obtain ⟨lx1aa, lx1ab, lx1ac, lx1ad⟩ := lts0 x1a.lt
  have cx1ba : w2.cell? ⟨w.heap.size + 1, 0, none⟩ = some (.bool false) := x1b.cell 0
  have fx1ba : w2.frozen? ⟨w.heap.size + 1, 0, none⟩ = false := x1b.frozen 0
  have cx1bb : w2.cell? ⟨w.heap.size + 1, 1, none⟩ = some (.slice none 0 0) := x1b.cell 1
  have fx1bb : w2.frozen? ⟨w.heap.size + 1, 1, none⟩ = false := x1b.frozen 1
  have cx1bc : w2.cell? ⟨w.heap.size + 1, 2, none⟩ = some (.slice none 0 0) := x1b.cell 2
  have fx1bc : w2.frozen? ⟨w.heap.size + 1, 2, none⟩ = false := x1b.frozen 2
  obtain ⟨lx1ba, lx1bb, lx1bc, lx1bd⟩ := lts1 x1b.lt
  obtain ⟨cx2aa, cx2ab⟩ := x2a.c2
  obtain ⟨lx2aa, lx2ab, lx2ac, lx2ad⟩ := lts0 x2a.lt
  obtain ⟨cx2ba, cx2bb⟩ := x2b.c2
  obtain ⟨lx2ba, lx2bb, lx2bc, lx2bd⟩ := lts1 x2b.lt
  have nfx1_0 : ¬ w.heap.size = w.heap.size + 1 := by omega
  have nex1_0 : ¬ w.heap.size = w.heap.size + 1 := by omega
  have nfx2_0 : ¬ w1.heap.size = w.heap.size + 1 := by omega
  have nex2_0 : ¬ w1.heap.size = w.heap.size + 1 := by omega
  have nfx2_1 : ¬ w1.heap.size + 1 = w.heap.size + 1 := by omega
  have nex2_1 : ¬ w1.heap.size = w.heap.size := by omega
  go_region_held3 (fun w' => SeesX w2.heap.size (w.heap.size + 1) w2 w') (first | with_reducible exact SeesX.of (Nat.le_refl _) (by assumption) | with_reducible exact SeesX.of (Nat.le_refl _) (brefl _).drew | with_reducible exact (SeesX.set (SeesX.set (SeesX.set (SeesX.of (Nat.le_refl _) (by assumption))))) | with_reducible exact (SeesX.set (SeesX.set (SeesX.of (Nat.le_refl _) (by assumption)))) | with_reducible exact (SeesX.set (SeesX.of (Nat.le_refl _) (by assumption))) | exact SeesX.of (Nat.le_refl _) (below_drewN (brefl _) 1) | exact SeesX.of (Nat.le_refl _) (below_drewN (by assumption) _))
    (first
      | (go_at_call 121; (with_reducible refine (i_neg _ b1 A1 n1 c1 ((q).num) ((k)) ?_ ?_).mono ?_); (exact h1.iz); (first | omega | decide | assumption); rintro e w3 ⟨b3, A3, n3, c3, rfl, h3, hb3⟩; replace hb3 := bnext (below_drewN (brefl _) 1) hb3; have q3 : Below w2.heap.size w2 w3 := bnext (brefl w2) hb3; replace h := h.belw hb3; replace h1 := h1.belw hb3; replace h'1 := h'1.belw hb3)
      | (go_at_call 89; (with_reducible refine (f_form _ b3 A3 n3 c3 (-((q).num)) (((k))) ?_ b'1 A'1 n'1 c'1 (((q).den : Int)) ((k)) ?_ (-q) (k) ?_ ?_ ?_ ?_).mono ?_); (exact h3.iz); (exact h'1.iz); (exact den_ne _); (exact (neg_q q).symm); (exact Sz_neg HS.out); (omega); rintro e w4 ⟨b4, A4, n4, c4, A'4, n'4, c'4, rfl, h4, hb4⟩; have q4 : Below w2.heap.size w2 w4 := bnext q3 hb4; replace h := h.belw hb4; replace h1 := h1.belw hb4; replace h'1 := h'1.belw hb4; replace h3 := h3.belw hb4; have x1b := x1b.b q4; obtain ⟨cx1ba, cx1bb, cx1bc⟩ := x1b.c3; obtain ⟨fx1ba, fx1bb, fx1bc⟩ := x1b.f3))
  have bw4 := bw2.trans (q4.mono bw2.size)
  clear lx1aa lx1ab lx1ac lx1ad cx1ba fx1ba cx1bb fx1bb cx1bc fx1bc lx1ba lx1bb lx1bc lx1bd cx2aa cx2ab lx2aa lx2ab lx2ac lx2ad cx2ba cx2bb lx2ba lx2bb lx2bc lx2bd
  replace x1a := x1a.b q4
  replace x2a := x2a.b q4
  replace x2b := x2b.b q4
  have lw4 := q4.size
  obtain ⟨cx1ba, cx1bb, cx1bc⟩ := x1b.c3
  obtain ⟨fx1ba, fx1bb, fx1bc⟩ := x1b.f3
  go_wp2_with fail
  refine bodyPost_ret (v := .agg #[.bool b4, .slice A4 n4 c4, .slice A'4 n'4 c'4]) (by simp [results, Tryz.results62, go_sem, *] <;> first | rfl | exact ⟨rfl, rfl⟩) rfl ?_
  exact ⟨b4, A4, n4, c4, A'4, n'4, c'4, rfl, h4.keep ((((Kp.refl w4).sb (w.heap.size + 1) 0 x1b.box (by decide) (.bool b4)).sb (w.heap.size + 1) 1 (x1b.box.set ⟨w.heap.size + 1, 0, none⟩ (.bool b4)) (by decide) (.slice A4 n4 c4)).sb (w.heap.size + 1) 2 ((x1b.box.set ⟨w.heap.size + 1, 0, none⟩ (.bool b4)).set ⟨w.heap.size + 1, 1, none⟩ (.slice A4 n4 c4)) (by decide) (.slice A'4 n'4 c'4)), (((bw4.sc (w.heap.size + 1) 0 (by omega) (.bool b4)).sc (w.heap.size + 1) 1 (by omega) (.slice A4 n4 c4)).sc (w.heap.size + 1) 2 (by omega) (.slice A'4 n'4 c'4))⟩
theorem f_add (w : World) (b : Bool) (A : Option Addr) (n c : Nat) (D : Option Addr) (m e : Nat) (q : Rat) (k : Nat) (h : QZ w b A n c D m e q k) (b' : Bool) (A' : Option Addr) (n' c' : Nat) (D' : Option Addr) (m' e' : Nat) (q' : Rat) (k' : Nat) (h' : QZ w b' A' n' c' D' m' e' q' k') (h0 : 0 < k) (hk : k ≤ 40000000) (h0' : 0 < k') (hk' : k' ≤ 40000000) :
    Calls Tryz.prog 42 #[.agg #[.bool b, .slice A n c, .slice D m e], .agg #[.bool b', .slice A' n' c', .slice D' m' e']] w (RetF w (q + q') (k + k' + 1)) := by
  have HS := Lib.hid (h.sz h0)
  have HS' := Lib.hid (h'.sz h0')
  go_enter Tryz.func42, Tryz.ntmps42
  go_wp2_with fail
  (with_reducible refine (f_parts _ b A n c D m e (q) (k) ?_ ?_ ?_).mono ?_); (exact (h.belw ((((Below.refl _ _).alloc (Nat.le_refl _) _).alloc (by simp) _).alloc (by simp <;> omega) _))); (first | omega | decide | assumption); (first | omega | decide | assumption); rintro e w1 ⟨b1, A1, n1, c1, b'1, A'1, n'1, c'1, rfl, h1, h'1, hb1⟩
  have q1 := ((((Below.refl _ _).alloc (Nat.le_refl _) _).alloc (by simp) _).alloc (by simp <;> omega) _).trans (hb1.mono (by simp <;> omega))
  replace h := h.belw q1
  replace h' := h'.belw q1
  have x1a : Blk w1 w.heap.size 24 #[.bool b, .slice A n c, .slice D m e] := (((blkAt _ _ _ (by simp)).alloc _).alloc _).below hb1 (by simp <;> omega)
  have x1b := ((blkAt _ _ _ (g := w.heap.size + 1) (by simp)).alloc _).below hb1 (by simp <;> omega)
  have x1c := (blkAt _ _ _ (g := w.heap.size + 1 + 1) (by simp)).below hb1 (by simp)
  have bw1 := (brefl w).trans (q1.mono (brefl w).size)
  have lw1 : w.heap.size + 3 ≤ w1.heap.size := by have := hb1.size; simp at this; omega
  clear q1
  obtain ⟨cx1ba, cx1bb, cx1bc⟩ := x1b.c3
  obtain ⟨lx1ba, lx1bb, lx1bc, lx1bd⟩ := lts1 x1b.lt
  go_wp2_with fail
  (with_reducible refine (f_parts _ b' A' n' c' D' m' e' (q') (k') ?_ ?_ ?_).mono ?_); (exact (h'.belw (((Below.refl _ _).alloc (Nat.le_refl _) _).alloc (by simp) _))); (first | omega | decide | assumption); (first | omega | decide | assumption); rintro e w2 ⟨b2, A2, n2, c2, b'2, A'2, n'2, c'2, rfl, h2, h'2, hb2⟩
  clear cx1ba cx1bb cx1bc lx1ba lx1bb lx1bc lx1bd
  have q2 := (((Below.refl _ _).alloc (Nat.le_refl _) _).alloc (by simp) _).trans (hb2.mono (by simp <;> omega))
  replace h := h.belw q2
  replace h' := h'.belw q2
  replace h1 := h1.belw q2
  replace h'1 := h'1.belw q2
  replace x1a := x1a.b q2
  replace x1b := x1b.b q2
  replace x1c := x1c.b q2
  have x2a : Blk w2 w1.heap.size 46 #[.bool b1, .slice A1 n1 c1] := ((blkAt _ _ _ (by simp)).alloc _).below hb2 (by simp <;> omega)
  have x2b := (blkAt _ _ _ (g := w1.heap.size + 1) (by simp)).below hb2 (by simp)
  have bw2 := bw1.trans (q2.mono bw1.size)
  have lw2 : w1.heap.size + 2 ≤ w2.heap.size := by have := hb2.size; simp at this; omega
  clear q2 bw1
  go_wp2_with fail
  have p3 := (((Kp.refl w2).alloc (.cells #[.bool b2, .slice A2 n2 c2] 46)).alloc (.cells #[.bool b'2, .slice A'2 n'2 c'2] 46))
  have bw3 := ((bw2.alloc (by first | omega | (simp <;> omega)) (.cells #[.bool b2, .slice A2 n2 c2] 46)).alloc (by first | omega | (simp <;> omega)) (.cells #[.bool b'2, .slice A'2 n'2 c'2] 46))
  have x3a : Blk ((w2.alloc (.cells #[.bool b2, .slice A2 n2 c2] 46)).alloc (.cells #[.bool b'2, .slice A'2 n'2 c'2] 46)) w2.heap.size 46 #[.bool b2, .slice A2 n2 c2] := ((blkAt _ _ _ (by simp)).alloc (.cells #[.bool b'2, .slice A'2 n'2 c'2] 46))
  have x3b : Blk ((w2.alloc (.cells #[.bool b2, .slice A2 n2 c2] 46)).alloc (.cells #[.bool b'2, .slice A'2 n'2 c'2] 46)) (w2.heap.size + 1) 46 #[.bool b'2, .slice A'2 n'2 c'2] := (blkAt _ _ _ (by simp))
  replace x1a := ((x1a.alloc (.cells #[.bool b2, .slice A2 n2 c2] 46)).alloc (.cells #[.bool b'2, .slice A'2 n'2 c'2] 46))
  replace x1b := ((x1b.alloc (.cells #[.bool b2, .slice A2 n2 c2] 46)).alloc (.cells #[.bool b'2, .slice A'2 n'2 c'2] 46))
  replace x1c := ((x1c.alloc (.cells #[.bool b2, .slice A2 n2 c2] 46)).alloc (.cells #[.bool b'2, .slice A'2 n'2 c'2] 46))
  replace x2a := ((x2a.alloc (.cells #[.bool b2, .slice A2 n2 c2] 46)).alloc (.cells #[.bool b'2, .slice A'2 n'2 c'2] 46))
  replace x2b := ((x2b.alloc (.cells #[.bool b2, .slice A2 n2 c2] 46)).alloc (.cells #[.bool b'2, .slice A'2 n'2 c'2] 46))
  have lw3 : w2.heap.size + 2 ≤ ((w2.alloc (.cells #[.bool b2, .slice A2 n2 c2] 46)).alloc (.cells #[.bool b'2, .slice A'2 n'2 c'2] 46)).heap.size := by simp
  generalize hE3 : ((w2.alloc (.cells #[.bool b2, .slice A2 n2 c2] 46)).alloc (.cells #[.bool b'2, .slice A'2 n'2 c'2] 46)) = w3 at p3 bw3 lw3 x3a x3b x1a x1b x1c x2a x2b ⊢
  clear hE3
  replace h := h.keep p3
  replace h' := h'.keep p3
  replace h1 := h1.keep p3
  replace h'1 := h'1.keep p3
  replace h2 := h2.keep p3
  replace h'2 := h'2.keep p3
  clear bw2
  obtain ⟨lx1aa, lx1ab, lx1ac, lx1ad⟩ := lts0 x1a.lt
  obtain ⟨lx1ba, lx1bb, lx1bc, lx1bd⟩ := lts1 x1b.lt
  have cx1ca : w3.cell? ⟨w.heap.size + 1 + 1, 0, none⟩ = some (.bool false) := x1c.cell 0
  have fx1ca : w3.frozen? ⟨w.heap.size + 1 + 1, 0, none⟩ = false := x1c.frozen 0
  have cx1cb : w3.cell? ⟨w.heap.size + 1 + 1, 1, none⟩ = some (.slice none 0 0) := x1c.cell 1
  have fx1cb : w3.frozen? ⟨w.heap.size + 1 + 1, 1, none⟩ = false := x1c.frozen 1
  have cx1cc : w3.cell? ⟨w.heap.size + 1 + 1, 2, none⟩ = some (.slice none 0 0) := x1c.cell 2
  have fx1cc : w3.frozen? ⟨w.heap.size + 1 + 1, 2, none⟩ = false := x1c.frozen 2
  obtain ⟨lx1ca, lx1cb, lx1cc, lx1cd⟩ := lts2 x1c.lt
  obtain ⟨cx2aa, cx2ab⟩ := x2a.c2
  obtain ⟨lx2aa, lx2ab, lx2ac, lx2ad⟩ := lts0 x2a.lt
  obtain ⟨cx2ba, cx2bb⟩ := x2b.c2
  obtain ⟨lx2ba, lx2bb, lx2bc, lx2bd⟩ := lts1 x2b.lt
  obtain ⟨cx3aa, cx3ab⟩ := x3a.c2
  obtain ⟨lx3aa, lx3ab, lx3ac, lx3ad⟩ := lts0 x3a.lt
  obtain ⟨cx3ba, cx3bb⟩ := x3b.c2
  obtain ⟨lx3ba, lx3bb, lx3bc, lx3bd⟩ := lts1 x3b.lt
  have nfx1_0 : ¬ w.heap.size = w.heap.size + 1 + 1 := by omega
  have nex1_0 : ¬ w.heap.size = w.heap.size + 2 := by omega
  have nfx1_1 : ¬ w.heap.size + 1 = w.heap.size + 1 + 1 := by omega
  have nex1_1 : ¬ w.heap.size = w.heap.size + 1 := by omega
  have nfx2_0 : ¬ w1.heap.size = w.heap.size + 1 + 1 := by omega
  have nex2_0 : ¬ w1.heap.size = w.heap.size + 2 := by omega
  have nfx2_1 : ¬ w1.heap.size + 1 = w.heap.size + 1 + 1 := by omega
  have nex2_1 : ¬ w1.heap.size = w.heap.size + 1 := by omega
  have nfx3_0 : ¬ w2.heap.size = w.heap.size + 1 + 1 := by omega
  have nex3_0 : ¬ w2.heap.size = w.heap.size + 2 := by omega
  have nfx3_1 : ¬ w2.heap.size + 1 = w.heap.size + 1 + 1 := by omega
  have nex3_1 : ¬ w2.heap.size = w.heap.size + 1 := by omega
  go_region_held3 (fun w' => SeesX w3.heap.size (w.heap.size + 1 + 1) w3 w') (first | with_reducible exact SeesX.of (Nat.le_refl _) (by assumption) | with_reducible exact SeesX.of (Nat.le_refl _) (brefl _).drew | with_reducible exact (SeesX.set (SeesX.set (SeesX.set (SeesX.of (Nat.le_refl _) (by assumption))))) | with_reducible exact (SeesX.set (SeesX.set (SeesX.of (Nat.le_refl _) (by assumption)))) | with_reducible exact (SeesX.set (SeesX.of (Nat.le_refl _) (by assumption))) | exact SeesX.of (Nat.le_refl _) (below_drewN (brefl _) 1) | exact SeesX.of (Nat.le_refl _) (below_drewN (by assumption) _))
    (first
      | (go_at_call 106; (with_reducible refine (i_mul _ b1 A1 n1 c1 ((q).num) ((k)) ?_ b'2 A'2 n'2 c'2 (((q').den : Int)) ((k')) ?_ ?_).mono ?_); (exact h1.iz); (exact h'2.iz); (first | omega | decide | assumption); rintro e w4 ⟨b4, A4, n4, c4, rfl, h4, hb4⟩; replace hb4 := bnext (below_drewN (brefl _) 1) hb4; have q4 : Below w3.heap.size w3 w4 := bnext (brefl w3) hb4; replace h := h.belw hb4; replace h' := h'.belw hb4; replace h1 := h1.belw hb4; replace h'1 := h'1.belw hb4; replace h2 := h2.belw hb4; replace h'2 := h'2.belw hb4)
      | (go_at_call 106; (with_reducible refine (i_mul _ b2 A2 n2 c2 ((q').num) ((k')) ?_ b'1 A'1 n'1 c'1 (((q).den : Int)) ((k)) ?_ ?_).mono ?_); (exact h2.iz); (exact h'1.iz); (first | omega | decide | assumption); rintro e w5 ⟨b5, A5, n5, c5, rfl, h5, hb5⟩; have q5 : Below w3.heap.size w3 w5 := bnext q4 hb5; replace h := h.belw hb5; replace h' := h'.belw hb5; replace h1 := h1.belw hb5; replace h'1 := h'1.belw hb5; replace h2 := h2.belw hb5; replace h'2 := h'2.belw hb5; replace h4 := h4.belw hb5)
      | (go_at_call 107; (with_reducible refine (i_add _ b4 A4 n4 c4 (((q).num) * (((q').den : Int))) (((k)) + ((k'))) ?_ b5 A5 n5 c5 (((q').num) * (((q).den : Int))) (((k')) + ((k))) ?_ ?_).mono ?_); (exact h4.iz); (exact h5.iz); (first | omega | decide | assumption); rintro e w6 ⟨b6, A6, n6, c6, rfl, h6, hb6⟩; have q6 : Below w3.heap.size w3 w6 := bnext q5 hb6; replace h := h.belw hb6; replace h' := h'.belw hb6; replace h1 := h1.belw hb6; replace h'1 := h'1.belw hb6; replace h2 := h2.belw hb6; replace h'2 := h'2.belw hb6; replace h4 := h4.belw hb6; replace h5 := h5.belw hb6)
      | (go_at_call 106; (with_reducible refine (i_mul _ b'1 A'1 n'1 c'1 (((q).den : Int)) ((k)) ?_ b'2 A'2 n'2 c'2 (((q').den : Int)) ((k')) ?_ ?_).mono ?_); (exact h'1.iz); (exact h'2.iz); (first | omega | decide | assumption); rintro e w7 ⟨b7, A7, n7, c7, rfl, h7, hb7⟩; have q7 : Below w3.heap.size w3 w7 := bnext q6 hb7; replace h := h.belw hb7; replace h' := h'.belw hb7; replace h1 := h1.belw hb7; replace h'1 := h'1.belw hb7; replace h2 := h2.belw hb7; replace h'2 := h'2.belw hb7; replace h4 := h4.belw hb7; replace h5 := h5.belw hb7; replace h6 := h6.belw hb7)
      | (go_at_call 89; (with_reducible refine (f_form _ b6 A6 n6 c6 ((((q).num) * (((q').den : Int))) + (((q').num) * (((q).den : Int)))) ((((k)) + ((k'))) + (((k')) + ((k))) + 1) ?_ b7 A7 n7 c7 ((((q).den : Int)) * (((q').den : Int))) (((k)) + ((k'))) ?_ (q + q') (k + k' + 1) ?_ ?_ ?_ ?_).mono ?_); (exact h6.iz); (exact h7.iz); (exact Int.mul_ne_zero (den_ne _) (den_ne _)); (exact (add_q _ _).symm); (exact Sz_add HS.out HS'.out); (omega); rintro e w8 ⟨b8, A8, n8, c8, A'8, n'8, c'8, rfl, h8, hb8⟩; have q8 : Below w3.heap.size w3 w8 := bnext q7 hb8; replace h := h.belw hb8; replace h' := h'.belw hb8; replace h1 := h1.belw hb8; replace h'1 := h'1.belw hb8; replace h2 := h2.belw hb8; replace h'2 := h'2.belw hb8; replace h4 := h4.belw hb8; replace h5 := h5.belw hb8; replace h6 := h6.belw hb8; replace h7 := h7.belw hb8; have x1c := x1c.b q8; obtain ⟨cx1ca, cx1cb, cx1cc⟩ := x1c.c3; obtain ⟨fx1ca, fx1cb, fx1cc⟩ := x1c.f3))
  have bw8 := bw3.trans (q8.mono bw3.size)
  clear lx1aa lx1ab lx1ac lx1ad lx1ba lx1bb lx1bc lx1bd cx1ca fx1ca cx1cb fx1cb cx1cc fx1cc lx1ca lx1cb lx1cc lx1cd cx2aa cx2ab lx2aa lx2ab lx2ac lx2ad cx2ba cx2bb lx2ba lx2bb lx2bc lx2bd cx3aa cx3ab lx3aa lx3ab lx3ac lx3ad cx3ba cx3bb lx3ba lx3bb lx3bc lx3bd
  replace x1a := x1a.b q8
  replace x1b := x1b.b q8
  replace x2a := x2a.b q8
  replace x2b := x2b.b q8
  replace x3a := x3a.b q8
  replace x3b := x3b.b q8
  have lw8 := q8.size
  obtain ⟨cx1ca, cx1cb, cx1cc⟩ := x1c.c3
  obtain ⟨fx1ca, fx1cb, fx1cc⟩ := x1c.f3
  go_wp2_with fail
  refine bodyPost_ret (v := .agg #[.bool b8, .slice A8 n8 c8, .slice A'8 n'8 c'8]) (by simp [results, Tryz.results42, go_sem, *] <;> first | rfl | exact ⟨rfl, rfl⟩) rfl ?_
  exact ⟨b8, A8, n8, c8, A'8, n'8, c'8, rfl, h8.keep ((((Kp.refl w8).sb (w.heap.size + 1 + 1) 0 x1c.box (by decide) (.bool b8)).sb (w.heap.size + 1 + 1) 1 (x1c.box.set ⟨w.heap.size + 1 + 1, 0, none⟩ (.bool b8)) (by decide) (.slice A8 n8 c8)).sb (w.heap.size + 1 + 1) 2 ((x1c.box.set ⟨w.heap.size + 1 + 1, 0, none⟩ (.bool b8)).set ⟨w.heap.size + 1 + 1, 1, none⟩ (.slice A8 n8 c8)) (by decide) (.slice A'8 n'8 c'8)), (((bw8.sc (w.heap.size + 1 + 1) 0 (by omega) (.bool b8)).sc (w.heap.size + 1 + 1) 1 (by omega) (.slice A8 n8 c8)).sc (w.heap.size + 1 + 1) 2 (by omega) (.slice A'8 n'8 c'8))⟩
theorem f_sub (w : World) (b : Bool) (A : Option Addr) (n c : Nat) (D : Option Addr) (m e : Nat) (q : Rat) (k : Nat) (h : QZ w b A n c D m e q k) (b' : Bool) (A' : Option Addr) (n' c' : Nat) (D' : Option Addr) (m' e' : Nat) (q' : Rat) (k' : Nat) (h' : QZ w b' A' n' c' D' m' e' q' k') (h0 : 0 < k) (hk : k ≤ 40000000) (h0' : 0 < k') (hk' : k' ≤ 40000000) :
    Calls Tryz.prog 55 #[.agg #[.bool b, .slice A n c, .slice D m e], .agg #[.bool b', .slice A' n' c', .slice D' m' e']] w (RetF w (q - q') (k + k' + 1)) := by
  rw [show q - q' = q + -q' from Rat.sub_eq_add_neg q q']
  go_enter Tryz.func55, Tryz.ntmps55
  go_wp2_with fail
  have p1 := ((((Kp.refl w).alloc (.cells #[.bool b, .slice A n c, .slice D m e] 24)).alloc (.cells #[.bool b', .slice A' n' c', .slice D' m' e'] 24)).alloc (.cells #[.bool false, .slice none 0 0, .slice none 0 0] 24))
  have bw1 := ((((brefl w).alloc (by first | omega | (simp <;> omega)) (.cells #[.bool b, .slice A n c, .slice D m e] 24)).alloc (by first | omega | (simp <;> omega)) (.cells #[.bool b', .slice A' n' c', .slice D' m' e'] 24)).alloc (by first | omega | (simp <;> omega)) (.cells #[.bool false, .slice none 0 0, .slice none 0 0] 24))
  have x1a : Blk (((w.alloc (.cells #[.bool b, .slice A n c, .slice D m e] 24)).alloc (.cells #[.bool b', .slice A' n' c', .slice D' m' e'] 24)).alloc (.cells #[.bool false, .slice none 0 0, .slice none 0 0] 24)) w.heap.size 24 #[.bool b, .slice A n c, .slice D m e] := (((blkAt _ _ _ (by simp)).alloc (.cells #[.bool b', .slice A' n' c', .slice D' m' e'] 24)).alloc (.cells #[.bool false, .slice none 0 0, .slice none 0 0] 24))
  have x1b : Blk (((w.alloc (.cells #[.bool b, .slice A n c, .slice D m e] 24)).alloc (.cells #[.bool b', .slice A' n' c', .slice D' m' e'] 24)).alloc (.cells #[.bool false, .slice none 0 0, .slice none 0 0] 24)) (w.heap.size + 1) 24 #[.bool b', .slice A' n' c', .slice D' m' e'] := ((blkAt _ _ _ (by simp)).alloc (.cells #[.bool false, .slice none 0 0, .slice none 0 0] 24))
  have x1c : Blk (((w.alloc (.cells #[.bool b, .slice A n c, .slice D m e] 24)).alloc (.cells #[.bool b', .slice A' n' c', .slice D' m' e'] 24)).alloc (.cells #[.bool false, .slice none 0 0, .slice none 0 0] 24)) (w.heap.size + 1 + 1) 24 #[.bool false, .slice none 0 0, .slice none 0 0] := (blkAt _ _ _ (by simp))
  have lw1 : w.heap.size + 3 ≤ (((w.alloc (.cells #[.bool b, .slice A n c, .slice D m e] 24)).alloc (.cells #[.bool b', .slice A' n' c', .slice D' m' e'] 24)).alloc (.cells #[.bool false, .slice none 0 0, .slice none 0 0] 24)).heap.size := by simp
  generalize hE1 : (((w.alloc (.cells #[.bool b, .slice A n c, .slice D m e] 24)).alloc (.cells #[.bool b', .slice A' n' c', .slice D' m' e'] 24)).alloc (.cells #[.bool false, .slice none 0 0, .slice none 0 0] 24)) = w1 at p1 bw1 lw1 x1a x1b x1c ⊢
  clear hE1
  replace h := h.keep p1
  replace h' := h'.keep p1
  obtain ⟨cx1aa, cx1ab, cx1ac⟩ := x1a.c3
  obtain ⟨lx1aa, lx1ab, lx1ac, lx1ad⟩ := lts0 x1a.lt
  obtain ⟨cx1ba, cx1bb, cx1bc⟩ := x1b.c3
  obtain ⟨lx1ba, lx1bb, lx1bc, lx1bd⟩ := lts1 x1b.lt
  obtain ⟨cx1ca, cx1cb, cx1cc⟩ := x1c.c3
  obtain ⟨fx1ca, fx1cb, fx1cc⟩ := x1c.f3
  obtain ⟨lx1ca, lx1cb, lx1cc, lx1cd⟩ := lts2 x1c.lt
  have nfx1_0 : ¬ w.heap.size = w.heap.size + 1 + 1 := by omega
  have nex1_0 : ¬ w.heap.size = w.heap.size + 2 := by omega
  have nfx1_1 : ¬ w.heap.size + 1 = w.heap.size + 1 + 1 := by omega
  have nex1_1 : ¬ w.heap.size = w.heap.size + 1 := by omega
  go_region_held3 (fun w' => SeesX w1.heap.size (w.heap.size + 1 + 1) w1 w') (first | with_reducible exact SeesX.of (Nat.le_refl _) (by assumption) | with_reducible exact SeesX.of (Nat.le_refl _) (brefl _).drew | with_reducible exact (SeesX.set (SeesX.set (SeesX.set (SeesX.of (Nat.le_refl _) (by assumption))))) | with_reducible exact (SeesX.set (SeesX.set (SeesX.of (Nat.le_refl _) (by assumption)))) | with_reducible exact (SeesX.set (SeesX.of (Nat.le_refl _) (by assumption))) | exact SeesX.of (Nat.le_refl _) (below_drewN (brefl _) 1) | exact SeesX.of (Nat.le_refl _) (below_drewN (by assumption) _))
    (first
      | (go_at_call 62; (with_reducible refine (f_neg _ b' A' n' c' D' m' e' (q') (k') ?_ ?_ ?_).mono ?_); (exact h'); (first | omega | decide | assumption); (first | omega | decide | assumption); rintro e w2 ⟨b2, A2, n2, c2, A'2, n'2, c'2, rfl, h2, hb2⟩; replace hb2 := bnext (below_drewN (brefl _) 1) hb2; have q2 : Below w1.heap.size w1 w2 := bnext (brefl w1) hb2; replace h := h.belw hb2; replace h' := h'.belw hb2)
      | (go_at_call 42; (with_reducible refine (f_add _ b A n c D m e (q) (k) ?_ b2 A2 n2 c2 A'2 n'2 c'2 (-(q')) ((k')) ?_ ?_ ?_ ?_ ?_).mono ?_); (exact h); (exact h2.qz); (first | omega | decide | assumption); (first | omega | decide | assumption); (first | omega | decide | assumption); (first | omega | decide | assumption); rintro e w3 ⟨b3, A3, n3, c3, A'3, n'3, c'3, rfl, h3, hb3⟩; have q3 : Below w1.heap.size w1 w3 := bnext q2 hb3; replace h := h.belw hb3; replace h' := h'.belw hb3; replace h2 := h2.belw hb3; have x1c := x1c.b q3; obtain ⟨cx1ca, cx1cb, cx1cc⟩ := x1c.c3; obtain ⟨fx1ca, fx1cb, fx1cc⟩ := x1c.f3))
  have bw3 := bw1.trans (q3.mono bw1.size)
  clear cx1aa cx1ab cx1ac lx1aa lx1ab lx1ac lx1ad cx1ba cx1bb cx1bc lx1ba lx1bb lx1bc lx1bd cx1ca fx1ca cx1cb fx1cb cx1cc fx1cc lx1ca lx1cb lx1cc lx1cd
  replace x1a := x1a.b q3
  replace x1b := x1b.b q3
  have lw3 := q3.size
  obtain ⟨cx1ca, cx1cb, cx1cc⟩ := x1c.c3
  obtain ⟨fx1ca, fx1cb, fx1cc⟩ := x1c.f3
  go_wp2_with fail
  refine bodyPost_ret (v := .agg #[.bool b3, .slice A3 n3 c3, .slice A'3 n'3 c'3]) (by simp [results, Tryz.results55, go_sem, *] <;> first | rfl | exact ⟨rfl, rfl⟩) rfl ?_
  exact ⟨b3, A3, n3, c3, A'3, n'3, c'3, rfl, h3.keep ((((Kp.refl w3).sb (w.heap.size + 1 + 1) 0 x1c.box (by decide) (.bool b3)).sb (w.heap.size + 1 + 1) 1 (x1c.box.set ⟨w.heap.size + 1 + 1, 0, none⟩ (.bool b3)) (by decide) (.slice A3 n3 c3)).sb (w.heap.size + 1 + 1) 2 ((x1c.box.set ⟨w.heap.size + 1 + 1, 0, none⟩ (.bool b3)).set ⟨w.heap.size + 1 + 1, 1, none⟩ (.slice A3 n3 c3)) (by decide) (.slice A'3 n'3 c'3)), (((bw3.sc (w.heap.size + 1 + 1) 0 (by omega) (.bool b3)).sc (w.heap.size + 1 + 1) 1 (by omega) (.slice A3 n3 c3)).sc (w.heap.size + 1 + 1) 2 (by omega) (.slice A'3 n'3 c'3))⟩
theorem f_cmp (w : World) (b : Bool) (A : Option Addr) (n c : Nat) (D : Option Addr) (m e : Nat) (q : Rat) (k : Nat) (h : QZ w b A n c D m e q k) (b' : Bool) (A' : Option Addr) (n' c' : Nat) (D' : Option Addr) (m' e' : Nat) (q' : Rat) (k' : Nat) (h' : QZ w b' A' n' c' D' m' e' q' k') (h0 : 0 < k) (hk : k ≤ 40000000) (h0' : 0 < k') (hk' : k' ≤ 40000000) :
    Calls Tryz.prog 41 #[.agg #[.bool b, .slice A n c, .slice D m e], .agg #[.bool b', .slice A' n' c', .slice D' m' e']] w (RetV w (.int .i64 (cmpI (q.num * q'.den) (q'.num * q.den)))) := by
  go_enter Tryz.func41, Tryz.ntmps41
  go_wp2_with fail
  (with_reducible refine (f_parts _ b A n c D m e (q) (k) ?_ ?_ ?_).mono ?_); (exact (h.belw (((Below.refl _ _).alloc (Nat.le_refl _) _).alloc (by simp) _))); (first | omega | decide | assumption); (first | omega | decide | assumption); rintro e w1 ⟨b1, A1, n1, c1, b'1, A'1, n'1, c'1, rfl, h1, h'1, hb1⟩
  have q1 := (((Below.refl _ _).alloc (Nat.le_refl _) _).alloc (by simp) _).trans (hb1.mono (by simp <;> omega))
  replace h := h.belw q1
  replace h' := h'.belw q1
  have x1a : Blk w1 w.heap.size 24 #[.bool b, .slice A n c, .slice D m e] := ((blkAt _ _ _ (by simp)).alloc _).below hb1 (by simp <;> omega)
  have x1b := (blkAt _ _ _ (g := w.heap.size + 1) (by simp)).below hb1 (by simp)
  have bw1 := (brefl w).trans (q1.mono (brefl w).size)
  have lw1 : w.heap.size + 2 ≤ w1.heap.size := by have := hb1.size; simp at this; omega
  clear q1
  obtain ⟨cx1ba, cx1bb, cx1bc⟩ := x1b.c3
  obtain ⟨lx1ba, lx1bb, lx1bc, lx1bd⟩ := lts1 x1b.lt
  go_wp2_with fail
  (with_reducible refine (f_parts _ b' A' n' c' D' m' e' (q') (k') ?_ ?_ ?_).mono ?_); (exact (h'.belw (((Below.refl _ _).alloc (Nat.le_refl _) _).alloc (by simp) _))); (first | omega | decide | assumption); (first | omega | decide | assumption); rintro e w2 ⟨b2, A2, n2, c2, b'2, A'2, n'2, c'2, rfl, h2, h'2, hb2⟩
  clear cx1ba cx1bb cx1bc lx1ba lx1bb lx1bc lx1bd
  have q2 := (((Below.refl _ _).alloc (Nat.le_refl _) _).alloc (by simp) _).trans (hb2.mono (by simp <;> omega))
  replace h := h.belw q2
  replace h' := h'.belw q2
  replace h1 := h1.belw q2
  replace h'1 := h'1.belw q2
  replace x1a := x1a.b q2
  replace x1b := x1b.b q2
  have x2a : Blk w2 w1.heap.size 46 #[.bool b1, .slice A1 n1 c1] := ((blkAt _ _ _ (by simp)).alloc _).below hb2 (by simp <;> omega)
  have x2b := (blkAt _ _ _ (g := w1.heap.size + 1) (by simp)).below hb2 (by simp)
  have bw2 := bw1.trans (q2.mono bw1.size)
  have lw2 : w1.heap.size + 2 ≤ w2.heap.size := by have := hb2.size; simp at this; omega
  clear q2 bw1
  go_wp2_with fail
  have p3 := (((Kp.refl w2).alloc (.cells #[.bool b2, .slice A2 n2 c2] 46)).alloc (.cells #[.bool b'2, .slice A'2 n'2 c'2] 46))
  have bw3 := ((bw2.alloc (by first | omega | (simp <;> omega)) (.cells #[.bool b2, .slice A2 n2 c2] 46)).alloc (by first | omega | (simp <;> omega)) (.cells #[.bool b'2, .slice A'2 n'2 c'2] 46))
  have x3a : Blk ((w2.alloc (.cells #[.bool b2, .slice A2 n2 c2] 46)).alloc (.cells #[.bool b'2, .slice A'2 n'2 c'2] 46)) w2.heap.size 46 #[.bool b2, .slice A2 n2 c2] := ((blkAt _ _ _ (by simp)).alloc (.cells #[.bool b'2, .slice A'2 n'2 c'2] 46))
  have x3b : Blk ((w2.alloc (.cells #[.bool b2, .slice A2 n2 c2] 46)).alloc (.cells #[.bool b'2, .slice A'2 n'2 c'2] 46)) (w2.heap.size + 1) 46 #[.bool b'2, .slice A'2 n'2 c'2] := (blkAt _ _ _ (by simp))
  replace x1a := ((x1a.alloc (.cells #[.bool b2, .slice A2 n2 c2] 46)).alloc (.cells #[.bool b'2, .slice A'2 n'2 c'2] 46))
  replace x1b := ((x1b.alloc (.cells #[.bool b2, .slice A2 n2 c2] 46)).alloc (.cells #[.bool b'2, .slice A'2 n'2 c'2] 46))
  replace x2a := ((x2a.alloc (.cells #[.bool b2, .slice A2 n2 c2] 46)).alloc (.cells #[.bool b'2, .slice A'2 n'2 c'2] 46))
  replace x2b := ((x2b.alloc (.cells #[.bool b2, .slice A2 n2 c2] 46)).alloc (.cells #[.bool b'2, .slice A'2 n'2 c'2] 46))
  have lw3 : w2.heap.size + 2 ≤ ((w2.alloc (.cells #[.bool b2, .slice A2 n2 c2] 46)).alloc (.cells #[.bool b'2, .slice A'2 n'2 c'2] 46)).heap.size := by simp
  generalize hE3 : ((w2.alloc (.cells #[.bool b2, .slice A2 n2 c2] 46)).alloc (.cells #[.bool b'2, .slice A'2 n'2 c'2] 46)) = w3 at p3 bw3 lw3 x3a x3b x1a x1b x2a x2b ⊢
  clear hE3
  replace h := h.keep p3
  replace h' := h'.keep p3
  replace h1 := h1.keep p3
  replace h'1 := h'1.keep p3
  replace h2 := h2.keep p3
  replace h'2 := h'2.keep p3
  clear bw2
  obtain ⟨lx1aa, lx1ab, lx1ac, lx1ad⟩ := lts0 x1a.lt
  obtain ⟨lx1ba, lx1bb, lx1bc, lx1bd⟩ := lts1 x1b.lt
  obtain ⟨cx2aa, cx2ab⟩ := x2a.c2
  obtain ⟨lx2aa, lx2ab, lx2ac, lx2ad⟩ := lts0 x2a.lt
  obtain ⟨cx2ba, cx2bb⟩ := x2b.c2
  obtain ⟨lx2ba, lx2bb, lx2bc, lx2bd⟩ := lts1 x2b.lt
  obtain ⟨cx3aa, cx3ab⟩ := x3a.c2
  obtain ⟨lx3aa, lx3ab, lx3ac, lx3ad⟩ := lts0 x3a.lt
  obtain ⟨cx3ba, cx3bb⟩ := x3b.c2
  obtain ⟨lx3ba, lx3bb, lx3bc, lx3bd⟩ := lts1 x3b.lt
  go_region_held3 (fun w' => Sees w3.heap.size w3 w') (first | with_reducible exact Sees.of (Nat.le_refl _) (by assumption) | with_reducible exact Sees.of (Nat.le_refl _) (brefl _).drew | exact Sees.of (Nat.le_refl _) (below_drewN (brefl _) 1) | exact Sees.of (Nat.le_refl _) (below_drewN (by assumption) _))
    (first
      | (go_at_call 106; (with_reducible refine (i_mul _ b1 A1 n1 c1 ((q).num) ((k)) ?_ b'2 A'2 n'2 c'2 (((q').den : Int)) ((k')) ?_ ?_).mono ?_); (exact h1.iz); (exact h'2.iz); (first | omega | decide | assumption); rintro e w4 ⟨b4, A4, n4, c4, rfl, h4, hb4⟩; replace hb4 := bnext (below_drewN (brefl _) 1) hb4; have q4 : Below w3.heap.size w3 w4 := bnext (brefl w3) hb4; replace h := h.belw hb4; replace h' := h'.belw hb4; replace h1 := h1.belw hb4; replace h'1 := h'1.belw hb4; replace h2 := h2.belw hb4; replace h'2 := h'2.belw hb4)
      | (go_at_call 106; (with_reducible refine (i_mul _ b2 A2 n2 c2 ((q').num) ((k')) ?_ b'1 A'1 n'1 c'1 (((q).den : Int)) ((k)) ?_ ?_).mono ?_); (exact h2.iz); (exact h'1.iz); (first | omega | decide | assumption); rintro e w5 ⟨b5, A5, n5, c5, rfl, h5, hb5⟩; have q5 : Below w3.heap.size w3 w5 := bnext q4 hb5; replace h := h.belw hb5; replace h' := h'.belw hb5; replace h1 := h1.belw hb5; replace h'1 := h'1.belw hb5; replace h2 := h2.belw hb5; replace h'2 := h'2.belw hb5; replace h4 := h4.belw hb5)
      | (go_at_call 59; (with_reducible refine (i_cmp _ b4 A4 n4 c4 (((q).num) * (((q').den : Int))) (((k)) + ((k'))) ?_ b5 A5 n5 c5 (((q').num) * (((q).den : Int))) (((k')) + ((k))) ?_ ?_).mono ?_); (exact h4.iz); (exact h5.iz); (first | omega | decide | assumption); rintro e w6 ⟨rfl, hb6⟩; have q6 : Below w3.heap.size w3 w6 := bnext q5 hb6; replace h := h.belw hb6; replace h' := h'.belw hb6; replace h1 := h1.belw hb6; replace h'1 := h'1.belw hb6; replace h2 := h2.belw hb6; replace h'2 := h'2.belw hb6; replace h4 := h4.belw hb6; replace h5 := h5.belw hb6))
  have bw6 := bw3.trans (q6.mono bw3.size)
  clear lx1aa lx1ab lx1ac lx1ad lx1ba lx1bb lx1bc lx1bd cx2aa cx2ab lx2aa lx2ab lx2ac lx2ad cx2ba cx2bb lx2ba lx2bb lx2bc lx2bd cx3aa cx3ab lx3aa lx3ab lx3ac lx3ad cx3ba cx3bb lx3ba lx3bb lx3bc lx3bd
  replace x1a := x1a.b q6
  replace x1b := x1b.b q6
  replace x2a := x2a.b q6
  replace x2b := x2b.b q6
  replace x3a := x3a.b q6
  replace x3b := x3b.b q6
  have lw6 := q6.size
  go_wp2_with fail
  go_ret
  exact retI rfl bw6
theorem f_div (w : World) (b : Bool) (A : Option Addr) (n c : Nat) (D : Option Addr) (m e : Nat) (q : Rat) (k : Nat) (h : QZ w b A n c D m e q k) (b' : Bool) (A' : Option Addr) (n' c' : Nat) (D' : Option Addr) (m' e' : Nat) (q' : Rat) (k' : Nat) (h' : QZ w b' A' n' c' D' m' e' q' k') (h0 : 0 < k) (hk : k ≤ 40000000) (h0' : 0 < k') (hk' : k' ≤ 40000000) (hne : q' ≠ 0) :
    Calls Tryz.prog 56 #[.agg #[.bool b, .slice A n c, .slice D m e], .agg #[.bool b', .slice A' n' c', .slice D' m' e']] w (RetFe w (.nilIface) (q / q') (k + k')) := by
  have HS := Lib.hid (h.sz h0)
  have HS' := Lib.hid (h'.sz h0')
  have HN := Lib.hid hne
  clear hne
  go_enter Tryz.func56, Tryz.ntmps56
  go_wp2_with fail
  (with_reducible refine (f_parts _ b A n c D m e (q) (k) ?_ ?_ ?_).mono ?_); (exact (h.belw ((((Below.refl _ _).alloc (Nat.le_refl _) _).alloc (by simp) _).alloc (by simp <;> omega) _))); (first | omega | decide | assumption); (first | omega | decide | assumption); rintro e w1 ⟨b1, A1, n1, c1, b'1, A'1, n'1, c'1, rfl, h1, h'1, hb1⟩
  have q1 := ((((Below.refl _ _).alloc (Nat.le_refl _) _).alloc (by simp) _).alloc (by simp <;> omega) _).trans (hb1.mono (by simp <;> omega))
  replace h := h.belw q1
  replace h' := h'.belw q1
  have x1a : Blk w1 w.heap.size 24 #[.bool b, .slice A n c, .slice D m e] := (((blkAt _ _ _ (by simp)).alloc _).alloc _).below hb1 (by simp <;> omega)
  have x1b := ((blkAt _ _ _ (g := w.heap.size + 1) (by simp)).alloc _).below hb1 (by simp <;> omega)
  have x1c := (blkAt _ _ _ (g := w.heap.size + 1 + 1) (by simp)).below hb1 (by simp)
  have bw1 := (brefl w).trans (q1.mono (brefl w).size)
  have lw1 : w.heap.size + 3 ≤ w1.heap.size := by have := hb1.size; simp at this; omega
  clear q1
  obtain ⟨cx1ba, cx1bb, cx1bc⟩ := x1b.c3
  obtain ⟨lx1ba, lx1bb, lx1bc, lx1bd⟩ := lts1 x1b.lt
  go_wp2_with fail
  (with_reducible refine (f_parts _ b' A' n' c' D' m' e' (q') (k') ?_ ?_ ?_).mono ?_); (exact (h'.belw (((Below.refl _ _).alloc (Nat.le_refl _) _).alloc (by simp) _))); (first | omega | decide | assumption); (first | omega | decide | assumption); rintro e w2 ⟨b2, A2, n2, c2, b'2, A'2, n'2, c'2, rfl, h2, h'2, hb2⟩
  clear cx1ba cx1bb cx1bc lx1ba lx1bb lx1bc lx1bd
  have q2 := (((Below.refl _ _).alloc (Nat.le_refl _) _).alloc (by simp) _).trans (hb2.mono (by simp <;> omega))
  replace h := h.belw q2
  replace h' := h'.belw q2
  replace h1 := h1.belw q2
  replace h'1 := h'1.belw q2
  replace x1a := x1a.b q2
  replace x1b := x1b.b q2
  replace x1c := x1c.b q2
  have x2a : Blk w2 w1.heap.size 46 #[.bool b1, .slice A1 n1 c1] := ((blkAt _ _ _ (by simp)).alloc _).below hb2 (by simp <;> omega)
  have x2b := (blkAt _ _ _ (g := w1.heap.size + 1) (by simp)).below hb2 (by simp)
  have bw2 := bw1.trans (q2.mono bw1.size)
  have lw2 : w1.heap.size + 2 ≤ w2.heap.size := by have := hb2.size; simp at this; omega
  clear q2 bw1
  go_wp2_with fail
  have p3 := (((Kp.refl w2).alloc (.cells #[.bool b2, .slice A2 n2 c2] 46)).alloc (.cells #[.bool b'2, .slice A'2 n'2 c'2] 46))
  have bw3 := ((bw2.alloc (by first | omega | (simp <;> omega)) (.cells #[.bool b2, .slice A2 n2 c2] 46)).alloc (by first | omega | (simp <;> omega)) (.cells #[.bool b'2, .slice A'2 n'2 c'2] 46))
  have x3a : Blk ((w2.alloc (.cells #[.bool b2, .slice A2 n2 c2] 46)).alloc (.cells #[.bool b'2, .slice A'2 n'2 c'2] 46)) w2.heap.size 46 #[.bool b2, .slice A2 n2 c2] := ((blkAt _ _ _ (by simp)).alloc (.cells #[.bool b'2, .slice A'2 n'2 c'2] 46))
  have x3b : Blk ((w2.alloc (.cells #[.bool b2, .slice A2 n2 c2] 46)).alloc (.cells #[.bool b'2, .slice A'2 n'2 c'2] 46)) (w2.heap.size + 1) 46 #[.bool b'2, .slice A'2 n'2 c'2] := (blkAt _ _ _ (by simp))
  replace x1a := ((x1a.alloc (.cells #[.bool b2, .slice A2 n2 c2] 46)).alloc (.cells #[.bool b'2, .slice A'2 n'2 c'2] 46))
  replace x1b := ((x1b.alloc (.cells #[.bool b2, .slice A2 n2 c2] 46)).alloc (.cells #[.bool b'2, .slice A'2 n'2 c'2] 46))
  replace x1c := ((x1c.alloc (.cells #[.bool b2, .slice A2 n2 c2] 46)).alloc (.cells #[.bool b'2, .slice A'2 n'2 c'2] 46))
  replace x2a := ((x2a.alloc (.cells #[.bool b2, .slice A2 n2 c2] 46)).alloc (.cells #[.bool b'2, .slice A'2 n'2 c'2] 46))
  replace x2b := ((x2b.alloc (.cells #[.bool b2, .slice A2 n2 c2] 46)).alloc (.cells #[.bool b'2, .slice A'2 n'2 c'2] 46))
  have lw3 : w2.heap.size + 2 ≤ ((w2.alloc (.cells #[.bool b2, .slice A2 n2 c2] 46)).alloc (.cells #[.bool b'2, .slice A'2 n'2 c'2] 46)).heap.size := by simp
  generalize hE3 : ((w2.alloc (.cells #[.bool b2, .slice A2 n2 c2] 46)).alloc (.cells #[.bool b'2, .slice A'2 n'2 c'2] 46)) = w3 at p3 bw3 lw3 x3a x3b x1a x1b x1c x2a x2b ⊢
  clear hE3
  replace h := h.keep p3
  replace h' := h'.keep p3
  replace h1 := h1.keep p3
  replace h'1 := h'1.keep p3
  replace h2 := h2.keep p3
  replace h'2 := h'2.keep p3
  clear bw2
  obtain ⟨lx1aa, lx1ab, lx1ac, lx1ad⟩ := lts0 x1a.lt
  obtain ⟨lx1ba, lx1bb, lx1bc, lx1bd⟩ := lts1 x1b.lt
  have cx1ca : w3.cell? ⟨w.heap.size + 1 + 1, 0, none⟩ = some (.bool false) := x1c.cell 0
  have fx1ca : w3.frozen? ⟨w.heap.size + 1 + 1, 0, none⟩ = false := x1c.frozen 0
  have cx1cb : w3.cell? ⟨w.heap.size + 1 + 1, 1, none⟩ = some (.slice none 0 0) := x1c.cell 1
  have fx1cb : w3.frozen? ⟨w.heap.size + 1 + 1, 1, none⟩ = false := x1c.frozen 1
  have cx1cc : w3.cell? ⟨w.heap.size + 1 + 1, 2, none⟩ = some (.slice none 0 0) := x1c.cell 2
  have fx1cc : w3.frozen? ⟨w.heap.size + 1 + 1, 2, none⟩ = false := x1c.frozen 2
  obtain ⟨lx1ca, lx1cb, lx1cc, lx1cd⟩ := lts2 x1c.lt
  obtain ⟨cx2aa, cx2ab⟩ := x2a.c2
  obtain ⟨lx2aa, lx2ab, lx2ac, lx2ad⟩ := lts0 x2a.lt
  obtain ⟨cx2ba, cx2bb⟩ := x2b.c2
  obtain ⟨lx2ba, lx2bb, lx2bc, lx2bd⟩ := lts1 x2b.lt
  obtain ⟨cx3aa, cx3ab⟩ := x3a.c2
  obtain ⟨lx3aa, lx3ab, lx3ac, lx3ad⟩ := lts0 x3a.lt
  obtain ⟨cx3ba, cx3bb⟩ := x3b.c2
  obtain ⟨lx3ba, lx3bb, lx3bc, lx3bd⟩ := lts1 x3b.lt
  have nfx1_0 : ¬ w.heap.size = w.heap.size + 1 + 1 := by omega
  have nex1_0 : ¬ w.heap.size = w.heap.size + 2 := by omega
  have nfx1_1 : ¬ w.heap.size + 1 = w.heap.size + 1 + 1 := by omega
  have nex1_1 : ¬ w.heap.size = w.heap.size + 1 := by omega
  have nfx2_0 : ¬ w1.heap.size = w.heap.size + 1 + 1 := by omega
  have nex2_0 : ¬ w1.heap.size = w.heap.size + 2 := by omega
  have nfx2_1 : ¬ w1.heap.size + 1 = w.heap.size + 1 + 1 := by omega
  have nex2_1 : ¬ w1.heap.size = w.heap.size + 1 := by omega
  have nfx3_0 : ¬ w2.heap.size = w.heap.size + 1 + 1 := by omega
  have nex3_0 : ¬ w2.heap.size = w.heap.size + 2 := by omega
  have nfx3_1 : ¬ w2.heap.size + 1 = w.heap.size + 1 + 1 := by omega
  have nex3_1 : ¬ w2.heap.size = w.heap.size + 1 := by omega
  go_region_held3 (fun w' => SeesX w3.heap.size (w.heap.size + 1 + 1) w3 w') (first | with_reducible exact SeesX.of (Nat.le_refl _) (by assumption) | with_reducible exact SeesX.of (Nat.le_refl _) (brefl _).drew | with_reducible exact (SeesX.set (SeesX.set (SeesX.set (SeesX.of (Nat.le_refl _) (by assumption))))) | with_reducible exact (SeesX.set (SeesX.set (SeesX.of (Nat.le_refl _) (by assumption)))) | with_reducible exact (SeesX.set (SeesX.of (Nat.le_refl _) (by assumption))) | exact SeesX.of (Nat.le_refl _) (below_drewN (brefl _) 1) | exact SeesX.of (Nat.le_refl _) (below_drewN (by assumption) _))
    (first
      | (go_at_call 106; (with_reducible refine (i_mul _ b1 A1 n1 c1 ((q).num) ((k)) ?_ b'2 A'2 n'2 c'2 (((q').den : Int)) ((k')) ?_ ?_).mono ?_); (exact h1.iz); (exact h'2.iz); (first | omega | decide | assumption); rintro e w4 ⟨b4, A4, n4, c4, rfl, h4, hb4⟩; replace hb4 := bnext (below_drewN (brefl _) 1) hb4; have q4 : Below w3.heap.size w3 w4 := bnext (brefl w3) hb4; replace h := h.belw hb4; replace h' := h'.belw hb4; replace h1 := h1.belw hb4; replace h'1 := h'1.belw hb4; replace h2 := h2.belw hb4; replace h'2 := h'2.belw hb4)
      | (go_at_call 106; (with_reducible refine (i_mul _ b'1 A'1 n'1 c'1 (((q).den : Int)) ((k)) ?_ b2 A2 n2 c2 ((q').num) ((k')) ?_ ?_).mono ?_); (exact h'1.iz); (exact h2.iz); (first | omega | decide | assumption); rintro e w5 ⟨b5, A5, n5, c5, rfl, h5, hb5⟩; have q5 : Below w3.heap.size w3 w5 := bnext q4 hb5; replace h := h.belw hb5; replace h' := h'.belw hb5; replace h1 := h1.belw hb5; replace h'1 := h'1.belw hb5; replace h2 := h2.belw hb5; replace h'2 := h'2.belw hb5; replace h4 := h4.belw hb5)
      | (go_at_call 26; (with_reducible refine (f_from _ b4 A4 n4 c4 (((q).num) * (((q').den : Int))) (((k)) + ((k'))) ?_ b5 A5 n5 c5 ((((q).den : Int)) * ((q').num)) (((k)) + ((k'))) ?_ (q / q') (k + k') ?_ ?_ ?_ ?_).mono ?_); (exact h4.iz); (exact h5.iz); (exact Int.mul_ne_zero (den_ne _) (fun x => HN.out (Rat.num_eq_zero.1 x))); (exact (div_q _ _ HN.out).symm); (exact Sz_div HS.out HS'.out HN.out); (omega); rintro e w6 ⟨b6, A6, n6, c6, A'6, n'6, c'6, rfl, h6, hb6⟩; have q6 : Below w3.heap.size w3 w6 := bnext q5 hb6; replace h := h.belw hb6; replace h' := h'.belw hb6; replace h1 := h1.belw hb6; replace h'1 := h'1.belw hb6; replace h2 := h2.belw hb6; replace h'2 := h'2.belw hb6; replace h4 := h4.belw hb6; replace h5 := h5.belw hb6; have x1c := x1c.b q6; obtain ⟨cx1ca, cx1cb, cx1cc⟩ := x1c.c3; obtain ⟨fx1ca, fx1cb, fx1cc⟩ := x1c.f3))
  have bw6 := bw3.trans (q6.mono bw3.size)
  clear lx1aa lx1ab lx1ac lx1ad lx1ba lx1bb lx1bc lx1bd cx1ca fx1ca cx1cb fx1cb cx1cc fx1cc lx1ca lx1cb lx1cc lx1cd cx2aa cx2ab lx2aa lx2ab lx2ac lx2ad cx2ba cx2bb lx2ba lx2bb lx2bc lx2bd cx3aa cx3ab lx3aa lx3ab lx3ac lx3ad cx3ba cx3bb lx3ba lx3bb lx3bc lx3bd
  replace x1a := x1a.b q6
  replace x1b := x1b.b q6
  replace x2a := x2a.b q6
  replace x2b := x2b.b q6
  replace x3a := x3a.b q6
  replace x3b := x3b.b q6
  have lw6 := q6.size
  obtain ⟨cx1ca, cx1cb, cx1cc⟩ := x1c.c3
  obtain ⟨fx1ca, fx1cb, fx1cc⟩ := x1c.f3
  go_wp2_with fail
  refine bodyPost_ret (v := .tuple #[.agg #[.bool b6, .slice A6 n6 c6, .slice A'6 n'6 c'6], .nilIface]) (by simp [results, Tryz.results56, go_sem, *] <;> first | rfl | exact ⟨rfl, rfl⟩) rfl ?_
  exact ⟨b6, A6, n6, c6, A'6, n'6, c'6, rfl, h6.keep ((((Kp.refl w6).sb (w.heap.size + 1 + 1) 0 x1c.box (by decide) (.bool b6)).sb (w.heap.size + 1 + 1) 1 (x1c.box.set ⟨w.heap.size + 1 + 1, 0, none⟩ (.bool b6)) (by decide) (.slice A6 n6 c6)).sb (w.heap.size + 1 + 1) 2 ((x1c.box.set ⟨w.heap.size + 1 + 1, 0, none⟩ (.bool b6)).set ⟨w.heap.size + 1 + 1, 1, none⟩ (.slice A6 n6 c6)) (by decide) (.slice A'6 n'6 c'6)), (((bw6.sc (w.heap.size + 1 + 1) 0 (by omega) (.bool b6)).sc (w.heap.size + 1 + 1) 1 (by omega) (.slice A6 n6 c6)).sc (w.heap.size + 1 + 1) 2 (by omega) (.slice A'6 n'6 c'6))⟩
end Go.Proofs.YtkpjhmpjihchpaaGreatDoor

namespace Bn
def rcmp (a b : Rat) : Int := if a < b then -1 else if a = b then 0 else 1
theorem rcmp_zero {a b : Rat} : rcmp a b = 0 ↔ a = b := by
  unfold rcmp
  split
  · grind
  · split
    · simpa
    · simpa
end Bn

namespace Go.Proofs.YtkpjhmpjihchpaaGreatDoor
open Go Go.RowKit Bn
attribute [local go_sem ↓] Go.wp_at_zero Go.wp_at_succ
theorem cmpI_rc (a b : Rat) : cmpI (a.num * b.den) (b.num * a.den) = rcmp a b := by
  unfold cmpI rcmp
  have h := cmp_q a b
  by_cases h1 : a < b
  · rw [if_pos h1, if_pos (h.1.2 h1)]
  · rw [if_neg h1, if_neg (fun x => h1 (h.1.1 x))]
    by_cases h2 : a = b
    · rw [if_pos h2, if_pos (h.2.2 h2)]
    · rw [if_neg h2, if_neg (fun x => h2 (h.2.1 x))]
theorem f_sign_v (w : World) (b : Bool) (A : Option Addr) (n c : Nat) (D : Option Addr) (m e : Nat) (q : Rat) (k : Nat) (h : QZ w b A n c D m e q k) (s : Int) (hs : q.num.sign = s) (h0 : 0 < k) (hk : k ≤ 40000000) : Calls Tryz.prog 44 #[.agg #[.bool b, .slice A n c, .slice D m e]] w (RetV w (.int .i64 s)) := by subst hs; exact f_sign w b A n c D m e q k h h0 hk
theorem f_cmp_v (w : World) (b : Bool) (A : Option Addr) (n c : Nat) (D : Option Addr) (m e : Nat) (q : Rat) (k : Nat) (h : QZ w b A n c D m e q k) (b' : Bool) (A' : Option Addr) (n' c' : Nat) (D' : Option Addr) (m' e' : Nat) (q' : Rat) (k' : Nat) (h' : QZ w b' A' n' c' D' m' e' q' k') (s : Int) (hs : rcmp q q' = s) (h0 : 0 < k) (hk : k ≤ 40000000) (h0' : 0 < k') (hk' : k' ≤ 40000000) : Calls Tryz.prog 41 #[.agg #[.bool b, .slice A n c, .slice D m e], .agg #[.bool b', .slice A' n' c', .slice D' m' e']] w (RetV w (.int .i64 s)) := by
  subst hs; rw [← cmpI_rc]; exact f_cmp w b A n c D m e q k h b' A' n' c' D' m' e' q' k' h' h0 hk h0' hk'
theorem f_from_0 (w : World) (b : Bool) (A : Option Addr) (n c : Nat) (z : Int) (k : Nat) (h : IZ w b A n c z k) (b' : Bool) (A' : Option Addr) (n' c' : Nat) (z' : Int) (k' : Nat) (h' : IZ w b' A' n' c' z' k') (hd : z' = 0) (hk : k + k' ≤ 300000000) :
  Calls Tryz.prog 26 #[.agg #[.bool b, .slice A n c], .agg #[.bool b', .slice A' n' c']] w (RetFe w (.iface 77 (.int .i64 8)) 0 1) := by
 have HS := Lib.hid (show z'.sign = 0 by rw [hd]; rfl)
 clear hd
 go_enter Tryz.func26, Tryz.ntmps26
 go_wp2_with fail
 (with_reducible refine (i_sign_e _ b' A' n' c' (z') (k') ?_ 0 ?_ ?_).mono ?_); (exact (h'.belw ((((Below.refl _ _).alloc (Nat.le_refl _) _).alloc (by simp) _).alloc (by simp <;> omega) _))); (exact HS.out); (omega); rintro e w1 ⟨rfl, hb1⟩
 have q1 := ((((Below.refl _ _).alloc (Nat.le_refl _) _).alloc (by simp) _).alloc (by simp <;> omega) _).trans (hb1.mono (by simp <;> omega))
 replace h := h.belw q1
 replace h' := h'.belw q1
 have x1a : Blk w1 w.heap.size 46 #[.bool b, .slice A n c] := (((blkAt _ _ _ (by simp)).alloc _).alloc _).below hb1 (by simp <;> omega)
 have x1b := ((blkAt _ _ _ (g := w.heap.size + 1) (by simp)).alloc _).below hb1 (by simp <;> omega)
 have x1c := (blkAt _ _ _ (g := w.heap.size + 1 + 1) (by simp)).below hb1 (by simp)
 have bw1 := (brefl w).trans (q1.mono (brefl w).size)
 have lw1 : w.heap.size + 3 ≤ w1.heap.size := by have := hb1.size; simp at this; omega
 clear q1
 obtain ⟨cx1ca, cx1cb, cx1cc⟩ := x1c.c3
 obtain ⟨fx1ca, fx1cb, fx1cc⟩ := x1c.f3
 obtain ⟨lx1ca, lx1cb, lx1cc, lx1cd⟩ := lts2 x1c.lt
 go_wp2_with fail
 refine bodyPost_ret (v := .tuple #[.agg #[.bool false, .slice none 0 0, .slice none 0 0], .iface 77 (.int .i64 8)]) (by simp [results, Tryz.results26, go_sem, *] <;> first | rfl | exact ⟨rfl, rfl⟩) rfl ?_
 exact ⟨_, _, _, _, _, _, _, rfl, QV.zero _ _, (((bw1.sc (w.heap.size + 1 + 1) 0 (by omega) (.bool false)).sc (w.heap.size + 1 + 1) 1 (by omega) (.slice none 0 0)).sc (w.heap.size + 1 + 1) 2 (by omega) (.slice none 0 0))⟩
theorem f_div_0 (w : World) (b : Bool) (A : Option Addr) (n c : Nat) (D : Option Addr) (m e : Nat) (q : Rat) (k : Nat) (h : QZ w b A n c D m e q k) (b' : Bool) (A' : Option Addr) (n' c' : Nat) (D' : Option Addr) (m' e' : Nat) (q' : Rat) (k' : Nat) (h' : QZ w b' A' n' c' D' m' e' q' k') (h0 : 0 < k) (hk : k ≤ 40000000) (h0' : 0 < k') (hk' : k' ≤ 40000000) (hz : q' = 0) :
    Calls Tryz.prog 56 #[.agg #[.bool b, .slice A n c, .slice D m e], .agg #[.bool b', .slice A' n' c', .slice D' m' e']] w (RetFe w (.iface 77 (.int .i64 8)) 0 1) := by
  have HD := Lib.hid (show (q.den : Int) * q'.num = 0 by rw [hz, show (0 : Rat).num = 0 from rfl, Int.mul_zero])
  clear hz
  go_enter Tryz.func56, Tryz.ntmps56
  go_wp2_with fail
  (with_reducible refine (f_parts _ b A n c D m e (q) (k) ?_ ?_ ?_).mono ?_); (exact (h.belw ((((Below.refl _ _).alloc (Nat.le_refl _) _).alloc (by simp) _).alloc (by simp <;> omega) _))); (first | omega | decide | assumption); (first | omega | decide | assumption); rintro e w1 ⟨b1, A1, n1, c1, b'1, A'1, n'1, c'1, rfl, h1, h'1, hb1⟩
  have q1 := ((((Below.refl _ _).alloc (Nat.le_refl _) _).alloc (by simp) _).alloc (by simp <;> omega) _).trans (hb1.mono (by simp <;> omega))
  replace h := h.belw q1
  replace h' := h'.belw q1
  have x1a : Blk w1 w.heap.size 24 #[.bool b, .slice A n c, .slice D m e] := (((blkAt _ _ _ (by simp)).alloc _).alloc _).below hb1 (by simp <;> omega)
  have x1b := ((blkAt _ _ _ (g := w.heap.size + 1) (by simp)).alloc _).below hb1 (by simp <;> omega)
  have x1c := (blkAt _ _ _ (g := w.heap.size + 1 + 1) (by simp)).below hb1 (by simp)
  have bw1 := (brefl w).trans (q1.mono (brefl w).size)
  have lw1 : w.heap.size + 3 ≤ w1.heap.size := by have := hb1.size; simp at this; omega
  clear q1
  obtain ⟨cx1ba, cx1bb, cx1bc⟩ := x1b.c3
  obtain ⟨lx1ba, lx1bb, lx1bc, lx1bd⟩ := lts1 x1b.lt
  go_wp2_with fail
  (with_reducible refine (f_parts _ b' A' n' c' D' m' e' (q') (k') ?_ ?_ ?_).mono ?_); (exact (h'.belw (((Below.refl _ _).alloc (Nat.le_refl _) _).alloc (by simp) _))); (first | omega | decide | assumption); (first | omega | decide | assumption); rintro e w2 ⟨b2, A2, n2, c2, b'2, A'2, n'2, c'2, rfl, h2, h'2, hb2⟩
  clear cx1ba cx1bb cx1bc lx1ba lx1bb lx1bc lx1bd
  have q2 := (((Below.refl _ _).alloc (Nat.le_refl _) _).alloc (by simp) _).trans (hb2.mono (by simp <;> omega))
  replace h := h.belw q2
  replace h' := h'.belw q2
  replace h1 := h1.belw q2
  replace h'1 := h'1.belw q2
  replace x1a := x1a.b q2
  replace x1b := x1b.b q2
  replace x1c := x1c.b q2
  have x2a : Blk w2 w1.heap.size 46 #[.bool b1, .slice A1 n1 c1] := ((blkAt _ _ _ (by simp)).alloc _).below hb2 (by simp <;> omega)
  have x2b := (blkAt _ _ _ (g := w1.heap.size + 1) (by simp)).below hb2 (by simp)
  have bw2 := bw1.trans (q2.mono bw1.size)
  have lw2 : w1.heap.size + 2 ≤ w2.heap.size := by have := hb2.size; simp at this; omega
  clear q2 bw1
  go_wp2_with fail
  have p3 := (((Kp.refl w2).alloc (.cells #[.bool b2, .slice A2 n2 c2] 46)).alloc (.cells #[.bool b'2, .slice A'2 n'2 c'2] 46))
  have bw3 := ((bw2.alloc (by first | omega | (simp <;> omega)) (.cells #[.bool b2, .slice A2 n2 c2] 46)).alloc (by first | omega | (simp <;> omega)) (.cells #[.bool b'2, .slice A'2 n'2 c'2] 46))
  have x3a : Blk ((w2.alloc (.cells #[.bool b2, .slice A2 n2 c2] 46)).alloc (.cells #[.bool b'2, .slice A'2 n'2 c'2] 46)) w2.heap.size 46 #[.bool b2, .slice A2 n2 c2] := ((blkAt _ _ _ (by simp)).alloc (.cells #[.bool b'2, .slice A'2 n'2 c'2] 46))
  have x3b : Blk ((w2.alloc (.cells #[.bool b2, .slice A2 n2 c2] 46)).alloc (.cells #[.bool b'2, .slice A'2 n'2 c'2] 46)) (w2.heap.size + 1) 46 #[.bool b'2, .slice A'2 n'2 c'2] := (blkAt _ _ _ (by simp))
  replace x1a := ((x1a.alloc (.cells #[.bool b2, .slice A2 n2 c2] 46)).alloc (.cells #[.bool b'2, .slice A'2 n'2 c'2] 46))
  replace x1b := ((x1b.alloc (.cells #[.bool b2, .slice A2 n2 c2] 46)).alloc (.cells #[.bool b'2, .slice A'2 n'2 c'2] 46))
  replace x1c := ((x1c.alloc (.cells #[.bool b2, .slice A2 n2 c2] 46)).alloc (.cells #[.bool b'2, .slice A'2 n'2 c'2] 46))
  replace x2a := ((x2a.alloc (.cells #[.bool b2, .slice A2 n2 c2] 46)).alloc (.cells #[.bool b'2, .slice A'2 n'2 c'2] 46))
  replace x2b := ((x2b.alloc (.cells #[.bool b2, .slice A2 n2 c2] 46)).alloc (.cells #[.bool b'2, .slice A'2 n'2 c'2] 46))
  have lw3 : w2.heap.size + 2 ≤ ((w2.alloc (.cells #[.bool b2, .slice A2 n2 c2] 46)).alloc (.cells #[.bool b'2, .slice A'2 n'2 c'2] 46)).heap.size := by simp
  generalize hE3 : ((w2.alloc (.cells #[.bool b2, .slice A2 n2 c2] 46)).alloc (.cells #[.bool b'2, .slice A'2 n'2 c'2] 46)) = w3 at p3 bw3 lw3 x3a x3b x1a x1b x1c x2a x2b ⊢
  clear hE3
  replace h := h.keep p3
  replace h' := h'.keep p3
  replace h1 := h1.keep p3
  replace h'1 := h'1.keep p3
  replace h2 := h2.keep p3
  replace h'2 := h'2.keep p3
  clear bw2
  obtain ⟨lx1aa, lx1ab, lx1ac, lx1ad⟩ := lts0 x1a.lt
  obtain ⟨lx1ba, lx1bb, lx1bc, lx1bd⟩ := lts1 x1b.lt
  have cx1ca : w3.cell? ⟨w.heap.size + 1 + 1, 0, none⟩ = some (.bool false) := x1c.cell 0
  have fx1ca : w3.frozen? ⟨w.heap.size + 1 + 1, 0, none⟩ = false := x1c.frozen 0
  have cx1cb : w3.cell? ⟨w.heap.size + 1 + 1, 1, none⟩ = some (.slice none 0 0) := x1c.cell 1
  have fx1cb : w3.frozen? ⟨w.heap.size + 1 + 1, 1, none⟩ = false := x1c.frozen 1
  have cx1cc : w3.cell? ⟨w.heap.size + 1 + 1, 2, none⟩ = some (.slice none 0 0) := x1c.cell 2
  have fx1cc : w3.frozen? ⟨w.heap.size + 1 + 1, 2, none⟩ = false := x1c.frozen 2
  obtain ⟨lx1ca, lx1cb, lx1cc, lx1cd⟩ := lts2 x1c.lt
  obtain ⟨cx2aa, cx2ab⟩ := x2a.c2
  obtain ⟨lx2aa, lx2ab, lx2ac, lx2ad⟩ := lts0 x2a.lt
  obtain ⟨cx2ba, cx2bb⟩ := x2b.c2
  obtain ⟨lx2ba, lx2bb, lx2bc, lx2bd⟩ := lts1 x2b.lt
  obtain ⟨cx3aa, cx3ab⟩ := x3a.c2
  obtain ⟨lx3aa, lx3ab, lx3ac, lx3ad⟩ := lts0 x3a.lt
  obtain ⟨cx3ba, cx3bb⟩ := x3b.c2
  obtain ⟨lx3ba, lx3bb, lx3bc, lx3bd⟩ := lts1 x3b.lt
  have nfx1_0_0 : ¬ w.heap.size = w.heap.size + 1 + 1 := by omega
  have nex1_0_0 : ¬ w.heap.size = w.heap.size + 2 := by omega
  have nfx1_1_0 : ¬ w.heap.size + 1 = w.heap.size + 1 + 1 := by omega
  have nex1_1_0 : ¬ w.heap.size = w.heap.size + 1 := by omega
  have nfx2_0_0 : ¬ w1.heap.size = w.heap.size + 1 + 1 := by omega
  have nex2_0_0 : ¬ w1.heap.size = w.heap.size + 2 := by omega
  have nfx2_1_0 : ¬ w1.heap.size + 1 = w.heap.size + 1 + 1 := by omega
  have nex2_1_0 : ¬ w1.heap.size = w.heap.size + 1 := by omega
  have nfx3_0_0 : ¬ w2.heap.size = w.heap.size + 1 + 1 := by omega
  have nex3_0_0 : ¬ w2.heap.size = w.heap.size + 2 := by omega
  have nfx3_1_0 : ¬ w2.heap.size + 1 = w.heap.size + 1 + 1 := by omega
  have nex3_1_0 : ¬ w2.heap.size = w.heap.size + 1 := by omega
  go_region_held3 (fun w' => SeesX w3.heap.size (w.heap.size + 1 + 1) w3 w') (first | with_reducible exact SeesX.of (Nat.le_refl _) (by assumption) | with_reducible exact SeesX.of (Nat.le_refl _) (brefl _).drew | with_reducible exact (SeesX.set (SeesX.set (SeesX.set (SeesX.of (Nat.le_refl _) (by assumption))))) | with_reducible exact (SeesX.set (SeesX.set (SeesX.of (Nat.le_refl _) (by assumption)))) | with_reducible exact (SeesX.set (SeesX.of (Nat.le_refl _) (by assumption))) | exact SeesX.of (Nat.le_refl _) (below_drewN (brefl _) 1) | exact SeesX.of (Nat.le_refl _) (below_drewN (by assumption) _))
    (first
      | (go_at_call 106; (with_reducible refine (i_mul _ b1 A1 n1 c1 ((q).num) ((k)) ?_ b'2 A'2 n'2 c'2 (((q').den : Int)) ((k')) ?_ ?_).mono ?_); (exact h1.iz); (exact h'2.iz); (first | omega | decide | assumption); rintro e w4 ⟨b4, A4, n4, c4, rfl, h4, hb4⟩; replace hb4 := bnext (below_drewN (brefl _) 1) hb4; have q4 : Below w3.heap.size w3 w4 := bnext (brefl w3) hb4; replace h := h.belw hb4; replace h' := h'.belw hb4; replace h1 := h1.belw hb4; replace h'1 := h'1.belw hb4; replace h2 := h2.belw hb4; replace h'2 := h'2.belw hb4)
      | (go_at_call 106; (with_reducible refine (i_mul _ b'1 A'1 n'1 c'1 (((q).den : Int)) ((k)) ?_ b2 A2 n2 c2 ((q').num) ((k')) ?_ ?_).mono ?_); (exact h'1.iz); (exact h2.iz); (first | omega | decide | assumption); rintro e w5 ⟨b5, A5, n5, c5, rfl, h5, hb5⟩; have q5 : Below w3.heap.size w3 w5 := bnext q4 hb5; replace h := h.belw hb5; replace h' := h'.belw hb5; replace h1 := h1.belw hb5; replace h'1 := h'1.belw hb5; replace h2 := h2.belw hb5; replace h'2 := h'2.belw hb5; replace h4 := h4.belw hb5)
      | (go_at_call 26; (with_reducible refine (f_from_0 _ b4 A4 n4 c4 (((q).num) * (((q').den : Int))) (((k)) + ((k'))) ?_ b5 A5 n5 c5 ((((q).den : Int)) * ((q').num)) (((k)) + ((k'))) ?_  ?_ ?_).mono ?_); (exact h4.iz); (exact h5.iz); (exact HD.out); (omega); rintro e w6 ⟨b6, A6, n6, c6, A'6, n'6, c'6, rfl, h6, hb6⟩; have q6 : Below w3.heap.size w3 w6 := bnext q5 hb6; replace h := h.belw hb6; replace h' := h'.belw hb6; replace h1 := h1.belw hb6; replace h'1 := h'1.belw hb6; replace h2 := h2.belw hb6; replace h'2 := h'2.belw hb6; replace h4 := h4.belw hb6; replace h5 := h5.belw hb6; have x1c := x1c.b q6; obtain ⟨cx1ca, cx1cb, cx1cc⟩ := x1c.c3; obtain ⟨fx1ca, fx1cb, fx1cc⟩ := x1c.f3))
  have bw6 := bw3.trans (q6.mono bw3.size)
  clear lx1aa lx1ab lx1ac lx1ad lx1ba lx1bb lx1bc lx1bd cx1ca fx1ca cx1cb fx1cb cx1cc fx1cc lx1ca lx1cb lx1cc lx1cd cx2aa cx2ab lx2aa lx2ab lx2ac lx2ad cx2ba cx2bb lx2ba lx2bb lx2bc lx2bd cx3aa cx3ab lx3aa lx3ab lx3ac lx3ad cx3ba cx3bb lx3ba lx3bb lx3bc lx3bd
  replace x1a := x1a.b q6
  replace x1b := x1b.b q6
  replace x2a := x2a.b q6
  replace x2b := x2b.b q6
  replace x3a := x3a.b q6
  replace x3b := x3b.b q6
  have lw6 := q6.size
  obtain ⟨cx1ca, cx1cb, cx1cc⟩ := x1c.c3
  obtain ⟨fx1ca, fx1cb, fx1cc⟩ := x1c.f3
  go_wp2_with fail
  refine bodyPost_ret (v := .tuple #[.agg #[.bool b6, .slice A6 n6 c6, .slice A'6 n'6 c'6], .iface 77 (.int .i64 8)]) (by simp [results, Tryz.results56, go_sem, *] <;> first | rfl | exact ⟨rfl, rfl⟩) rfl ?_
  exact ⟨b6, A6, n6, c6, A'6, n'6, c'6, rfl, h6.keep ((((Kp.refl w6).sb (w.heap.size + 1 + 1) 0 x1c.box (by decide) (.bool b6)).sb (w.heap.size + 1 + 1) 1 (x1c.box.set ⟨w.heap.size + 1 + 1, 0, none⟩ (.bool b6)) (by decide) (.slice A6 n6 c6)).sb (w.heap.size + 1 + 1) 2 ((x1c.box.set ⟨w.heap.size + 1 + 1, 0, none⟩ (.bool b6)).set ⟨w.heap.size + 1 + 1, 1, none⟩ (.slice A6 n6 c6)) (by decide) (.slice A'6 n'6 c'6)), (((bw6.sc (w.heap.size + 1 + 1) 0 (by omega) (.bool b6)).sc (w.heap.size + 1 + 1) 1 (by omega) (.slice A6 n6 c6)).sc (w.heap.size + 1 + 1) 2 (by omega) (.slice A'6 n'6 c'6))⟩
end Go.Proofs.YtkpjhmpjihchpaaGreatDoor

namespace Go.Proofs.YtkpjhmpjihchpaaGreatDoor
open Go Go.RowKit Bn

theorem run_as_err (x : Int) (w : World) : (Instr.typeAssert (.iface 77 (.int .i64 x)) 30 77 true).run Tryz.prog w = .ok (.tuple #[.int .i64 x, .bool true]) w := by
  simp [Instr.typeAssert, run_underlying Tryz.underlying77]
theorem b_num_err (w : World) (x : Int) : Calls Tryz.prog 21 #[.iface 77 (.int .i64 x)] w (RetV w (.int .i64 x)) := by
 go_enter Tryz.func21, Tryz.ntmps21
 have hr := run_as_err x
 go_wp2
 go_ret
 exact ⟨rfl, brefl w⟩
end Go.Proofs.YtkpjhmpjihchpaaGreatDoor

namespace Go.Proofs.YtkpjhmpjihchpaaGreatDoor
open Go Go.RowKit Bn

theorem b_is (w : World) (x : Int) : Calls Tryz.prog 57 #[.iface 77 (.int .i64 x), .int .i64 x] w (RetV w (.bool true)) := by
 go_enter Tryz.func57, Tryz.ntmps57
 go_wp2_with (go_at_call 21; (with_reducible refine (b_num_err _ x).mono ?_); rintro e w1 ⟨rfl, hb1⟩)
 go_ret
 exact ⟨rfl, hb1⟩
end Go.Proofs.YtkpjhmpjihchpaaGreatDoor

namespace Go.Proofs.YtkpjhmpjihchpaaGreatDoor
open Go Go.RowKit Bn
attribute [local go_sem ↓] Go.wp_at_zero Go.wp_at_succ
theorem rsq3 {w : World} {g : Nat} {T : TypeId} {b : Bool} {A : Option Addr} {n c : Nat} {D : Option Addr} {m e : Nat} {b1 : Bool} {A1 : Option Addr} {n1 c1 : Nat} {D1 : Option Addr} {m1 e1 : Nat} {b2 : Bool} {A2 : Option Addr} {n2 c2 : Nat} {D2 : Option Addr} {m2 e2 : Nat}
    (hb : Blk w g T #[.bool b, .slice A n c, .slice D m e, .bool b1, .slice A1 n1 c1, .slice D1 m1 e1, .bool b2, .slice A2 n2 c2, .slice D2 m2 e2]) : RsQ w g 3 (fun i : Nat => if i = 0 then n else if i = 1 then n1 else n2) (fun i : Nat => if i = 0 then m else if i = 1 then m1 else m2) := by
  refine ⟨hb.lt, fun i hi => ?_⟩
  match i, hi with
  | 0, _ => exact ⟨_, _, _, _, _, hb.cell 0, hb.cell 1, hb.cell 2⟩
  | 1, _ => exact ⟨_, _, _, _, _, hb.cell 3, hb.cell 4, hb.cell 5⟩
  | 2, _ => exact ⟨_, _, _, _, _, hb.cell 6, hb.cell 7, hb.cell 8⟩
theorem QD.short2 {w : World} {b : Bool} {A D : Option Addr} {n c m e k : Nat} {r : RD} (h : QD w b A n c D m e r k) (hs : n ≤ 12 ∧ m ≤ 12) : QD w b A n c D m e r 12 := ⟨h.1, h.2.1, h.2.2.1, hs.1, hs.2⟩
end Go.Proofs.YtkpjhmpjihchpaaGreatDoor

namespace Bn
theorem sub_self_sign (q : Rat) : (q - q).num.sign = 0 := by rw [Rat.sub_self]; rfl
end Bn

namespace Go.Proofs.YtkpjhmpjihchpaaGreatDoor
open Go Go.RowKit Bn
attribute [local go_sem ↓] Go.wp_at_zero Go.wp_at_succ
theorem b_words (w : World) (A : Option Addr) (n c : Nat) (l : List Nat) (wa : Wd w A n c l) (A' : Option Addr) (n' c' : Nat) (wb : Wd w A' n' c' l) (hn : n ≤ 1000000000) :
  Calls Tryz.prog 128 #[.slice A n c, .slice A' n' c'] w (RetV w (.bool true)) := by
 have hnn : n' = n := by rw [wa.2.1, wb.2.1]
 subst hnn
 have HA := Lib.hid wa
 have HB := Lib.hid wb
 clear wa wb
 go_enter Tryz.func128, Tryz.ntmps128
 go_wp2_with fail
 go_loopw [5] (fun iv wr => ∃ (i q : Nat), i ≤ n' ∧ iv = .int .i64 (i : Nat) ∧ wr = w.drewN q) (fun iv _ => n' - (intOf iv).toNat)
 case atStart => exact ⟨0, 0, Nat.zero_le _, rfl, rfl⟩
 case round =>
  obtain ⟨i, q, hi, rfl, rfl⟩ := hrel
  by_cases hlt : i < n'
  ·obtain ⟨g, o, rfl, hc1⟩ := HA.out.at_ (by omega)
   obtain ⟨g', o', rfl, hc2⟩ := HB.out.at_ (by omega)
   have h1 := hc1 i hlt
   have h2 := hc2 i hlt
   have hi0 : (0 : Int) ≤ (i : Int) := by omega
   have hi1 : (i : Int) < (n' : Int) := by omega
   generalize wd l i = x at h1 h2
   clear hc1 hc2
   go_wp2_with fail
   go_quiet (fail)
   go_wp2
   go_roundw
   case rel => exact ⟨i + 1, _, by omega, by go_num, rfl⟩
   case measure => simp [intOf]; omega
  ·go_wp2
   go_ret
   exact retB rfl (by repeat (first | exact Below.refl _ _ | refine below_drewN ?_ _))
theorem b_rat (w : World) (b : Bool) (A : Option Addr) (n c : Nat) (D : Option Addr) (m e : Nat) (b' : Bool) (A' : Option Addr) (n' c' : Nat) (D' : Option Addr) (m' e' : Nat) (q : Rat) (k k' : Nat) (h : QV w b A n c D m e q k) (h' : QV w b' A' n' c' D' m' e' q k') (hk : k ≤ 1000000) :
  Calls Tryz.prog 80 #[.agg #[.bool b, .slice A n c, .slice D m e], .agg #[.bool b', .slice A' n' c', .slice D' m' e']] w (RetV w (.bool true)) := by
 obtain ⟨e1, ha, hd, hk1, hk2⟩ := h
 obtain ⟨e1', ha', hd', _, _⟩ := h'
 subst e1 e1'
 have HE : ((rd q).neg == (rd q).neg) = true := by simp
 have HA := Lib.hid (And.intro ha ha')
 have HD := Lib.hid (And.intro hd hd')
 clear ha ha' hd hd'
 go_enter Tryz.func80, Tryz.ntmps80
 go_wp2_with fail
 (with_reducible refine (b_words _ A n c (rd q).num ?_ A' n' c' ?_ ?_).mono ?_); (exact HA.out.1.keep (((Kp.refl _).alloc _).alloc _)); (exact HA.out.2.keep (((Kp.refl _).alloc _).alloc _)); (omega); rintro e w1 ⟨rfl, hb⟩
 have q1 : Below w.heap.size w w1 := (((Below.refl _ _).alloc (Nat.le_refl _) _).alloc (by simp) _).trans (hb.mono (by simp <;> omega))
 have x0 : Blk w1 w.heap.size 24 #[.bool (rd q).neg, .slice A n c, .slice D m e] := ((blkAt w _ _ rfl).alloc _).below hb (by simp <;> omega)
 have x1 : Blk w1 (w.heap.size + 1) 24 #[.bool (rd q).neg, .slice A' n' c', .slice D' m' e'] := (blkAt _ _ _ (by simp)).below hb (by simp)
 have c02 : w1.cell? ⟨w.heap.size, 2, none⟩ = some (.slice D m e) := x0.cell 2
 have c12 : w1.cell? ⟨w.heap.size + 1, 2, none⟩ = some (.slice D' m' e') := x1.cell 2
 clear hb
 go_wp2_with fail
 (with_reducible refine (b_words _ D m e (rd q).den ?_ D' m' e' ?_ ?_).mono ?_); (exact HD.out.1.belw q1); (exact HD.out.2.belw q1); (omega); rintro e w2 ⟨rfl, hb2⟩
 go_wp2_with fail
 go_ret
 exact ⟨rfl, q1.trans (hb2.mono q1.size)⟩
end Go.Proofs.YtkpjhmpjihchpaaGreatDoor

namespace Go.Proofs.YtkpjhmpjihchpaaGreatDoor
open Go Go.RowKit Bn
attribute [local go_sem ↓] Go.wp_at_zero Go.wp_at_succ
theorem b_rat2 (w : World) (b : Bool) (A : Option Addr) (n c : Nat) (D : Option Addr) (m e : Nat) (q : Rat) (k : Nat) (h : QV w b A n c D m e q k) (b' : Bool) (A' : Option Addr) (n' c' : Nat) (D' : Option Addr) (m' e' : Nat) (q' : Rat) (k' : Nat) (h' : QV w b' A' n' c' D' m' e' q' k') (he : q = q') (hk : k ≤ 1000000) : Calls Tryz.prog 80 #[.agg #[.bool b, .slice A n c, .slice D m e], .agg #[.bool b', .slice A' n' c', .slice D' m' e']] w (RetV w (.bool true)) := by
  subst he; exact b_rat w b A n c D m e b' A' n' c' D' m' e' q k k' h h' hk
theorem rs_same (w : World) (b : Bool) (A : Option Addr) (n c : Nat) (D : Option Addr) (m e : Nat) (q : Rat) (k : Nat) (h : QV w b A n c D m e q k) (b' : Bool) (A' : Option Addr) (n' c' : Nat) (D' : Option Addr) (m' e' : Nat) (q' : Rat) (k' : Nat) (h' : QV w b' A' n' c' D' m' e' q' k') (he : q = q') (hk : k ≤ 1000000) :
  Calls Tryz.prog 33 #[.agg #[.bool b, .slice A n c, .slice D m e], .agg #[.bool b', .slice A' n' c', .slice D' m' e']] w (RetV w (.bool true)) := by
 have HE := Lib.hid he
 clear he
 go_enter Tryz.func33, Tryz.ntmps33
 go_wp2_with fail
 (with_reducible refine (b_rat2 _ b A n c D m e (q) (k) ?_ b' A' n' c' D' m' e' (q') (k') ?_ ?_ ?_).mono ?_); (exact (h.belw (((Below.refl _ _).alloc (Nat.le_refl _) _).alloc (by simp) _))); (exact (h'.belw (((Below.refl _ _).alloc (Nat.le_refl _) _).alloc (by simp) _))); (exact HE.out); (omega); rintro e w1 ⟨rfl, hb1⟩
 have q1 := (((Below.refl _ _).alloc (Nat.le_refl _) _).alloc (by simp) _).trans (hb1.mono (by simp <;> omega))
 replace h := h.belw q1
 replace h' := h'.belw q1
 have x1a : Blk w1 w.heap.size 24 #[.bool b, .slice A n c, .slice D m e] := ((blkAt _ _ _ (by simp)).alloc _).below hb1 (by simp <;> omega)
 have x1b := (blkAt _ _ _ (g := w.heap.size + 1) (by simp)).below hb1 (by simp)
 have bw1 := (brefl w).trans (q1.mono (brefl w).size)
 have lw1 : w.heap.size + 2 ≤ w1.heap.size := by have := hb1.size; simp at this; omega
 clear q1
 go_wp2_with fail
 go_ret
 exact retB rfl bw1
end Go.Proofs.YtkpjhmpjihchpaaGreatDoor

namespace Go.Proofs.YtkpjhmpjihchpaaGreatDoor
open Go Go.RowKit Bn
attribute [local go_sem ↓] Go.wp_at_zero Go.wp_at_succ
theorem QZ.short2 {w : World} {b : Bool} {A D : Option Addr} {n c m e k : Nat} {q : Rat} (h : QZ w b A n c D m e q k) (hs : n ≤ 12 ∧ m ≤ 12) : QZ w b A n c D m e q 12 := by
  obtain ⟨a, h, e⟩ := h
  exact ⟨a, h.short2 hs, e⟩
theorem f_valid_v (w : World) (b : Bool) (A : Option Addr) (n c : Nat) (D : Option Addr) (m e : Nat) (q : Rat) (k : Nat) (h : QV w b A n c D m e q k) (hk : k ≤ 300000000) : Calls Tryz.prog 31 #[.agg #[.bool b, .slice A n c, .slice D m e]] w (RetV w (.bool true)) := by
  have := f_valid w b A n c D m e (rd q) k h hk
  rw [rd_ok] at this
  exact this
end Go.Proofs.YtkpjhmpjihchpaaGreatDoor

/- Walks: FractionField. -/
namespace Go.Proofs.YtkpjhmpjihchpaaGreatDoor
open Go Go.RowKit Bn
attribute [local go_sem ↓] Go.wp_at_zero Go.wp_at_succ
theorem l_FractionField (w : World) (b : Bool) (A : Option Addr) (n c : Nat) (D : Option Addr) (m e : Nat) (q : Rat) (k : Nat) (H : QZ w b A n c D m e q k) (b' : Bool) (A' : Option Addr) (n' c' : Nat) (D' : Option Addr) (m' e' : Nat) (q' : Rat) (k' : Nat) (H' : QZ w b' A' n' c' D' m' e' q' k') (b2 : Bool) (A2 : Option Addr) (n2 c2 : Nat) (D2 : Option Addr) (m2 e2 : Nat) (q2 : Rat) (k2 : Nat) (H2 : QZ w b2 A2 n2 c2 D2 m2 e2 q2 k2) (htab : Tab w) (hmx : Mx w) :
    Calls Tryz.prog 9 #[.agg #[.bool b, .slice A n c, .slice D m e], .agg #[.bool b', .slice A' n' c', .slice D' m' e'], .agg #[.bool b2, .slice A2 n2 c2, .slice D2 m2 e2]] w (RetV w (.bool true)) := by
  go_enter Tryz.func9, Tryz.ntmps9
  go_wp2_with fail
  (with_reducible refine (l2_short _ (w.heap.size + 1 + 1 + 1) 3 (fun i : Nat => if i = 0 then n else if i = 1 then n' else n2) (fun i : Nat => if i = 0 then m else if i = 1 then m' else m2) ?_ ?_).mono ?_); (exact rsq3 (blkAt _ _ _ (by simp))); (decide); rintro e w1 ⟨r1, rfl, hr1, hb1⟩
  have q1 := (((((Below.refl _ _).alloc (Nat.le_refl _) _).alloc (by simp) _).alloc (by simp <;> omega) _).alloc (by simp <;> omega) _).trans (hb1.mono (by simp <;> omega))
  replace H := H.belw q1
  replace H' := H'.belw q1
  replace H2 := H2.belw q1
  have x1a : Blk w1 w.heap.size 24 #[.bool b, .slice A n c, .slice D m e] := ((((blkAt _ _ _ (by simp)).alloc _).alloc _).alloc _).below hb1 (by simp <;> omega)
  have x1b := (((blkAt _ _ _ (g := w.heap.size + 1) (by simp)).alloc _).alloc _).below hb1 (by simp <;> omega)
  have x1c := ((blkAt _ _ _ (g := w.heap.size + 1 + 1) (by simp)).alloc _).below hb1 (by simp <;> omega)
  have x1d := (blkAt _ _ _ (g := w.heap.size + 1 + 1 + 1) (by simp)).below hb1 (by simp)
  have bw1 := (brefl w).trans (q1.mono (brefl w).size)
  have lw1 : w.heap.size + 4 ≤ w1.heap.size := by have := hb1.size; simp at this; omega
  clear q1
  cases r1
  · clear hr1
    go_wp2_with fail
    (with_reducible refine (l2_awake _  ?_ ?_).mono ?_); (exact htab.belw bw1); (exact hmx.belw bw1); rintro e w2 ⟨rfl, q2⟩
    replace H := H.belw q2
    replace H' := H'.belw q2
    replace H2 := H2.belw q2
    replace x1a := x1a.b q2
    replace x1b := x1b.b q2
    replace x1c := x1c.b q2
    replace x1d := x1d.b q2
    have bw2 := bw1.trans (q2.mono bw1.size)
    have lw2 := q2.size
    clear q2 bw1
    go_wp2_with fail
    go_ret
    exact retB rfl bw2
  · replace H := QZ.short2 H (hr1 rfl 0 (by decide))
    replace H' := QZ.short2 H' (hr1 rfl 1 (by decide))
    replace H2 := QZ.short2 H2 (hr1 rfl 2 (by decide))
    clear hr1
    go_wp2_with fail
    (with_reducible refine (l2_awake _  ?_ ?_).mono ?_); (exact htab.belw bw1); (exact hmx.belw bw1); rintro e w2 ⟨rfl, q2⟩
    replace H := H.belw q2
    replace H' := H'.belw q2
    replace H2 := H2.belw q2
    replace x1a := x1a.b q2
    replace x1b := x1b.b q2
    replace x1c := x1c.b q2
    replace x1d := x1d.b q2
    have bw2 := bw1.trans (q2.mono bw1.size)
    have lw2 := q2.size
    clear q2 bw1
    obtain ⟨cx1aa, cx1ab, cx1ac⟩ := x1a.c3
    obtain ⟨lx1aa, lx1ab, lx1ac, lx1ad⟩ := lts0 x1a.lt
    obtain ⟨cx1ba, cx1bb, cx1bc⟩ := x1b.c3
    obtain ⟨lx1ba, lx1bb, lx1bc, lx1bd⟩ := lts1 x1b.lt
    obtain ⟨cx1ca, cx1cb, cx1cc⟩ := x1c.c3
    obtain ⟨lx1ca, lx1cb, lx1cc, lx1cd⟩ := lts2 x1c.lt
    go_wp2_with fail
    refine wp_region_lin (B := w.heap.size) (fr := fun xf => ⟨List.toArray (.agg #[.bool b, .slice A n c, .slice D m e] :: .agg #[.bool b', .slice A' n' c', .slice D' m' e'] :: .agg #[.bool b2, .slice A2 n2 c2, .slice D2 m2 e2] :: .pointer (some ⟨w.heap.size, 0, none⟩) :: .pointer (some ⟨w.heap.size + 1, 0, none⟩) :: .pointer (some ⟨w.heap.size + 1 + 1, 0, none⟩) :: .bool false :: xf 20 :: undef :: undef :: undef :: undef :: .agg #[.bool b, .slice A n c, .slice D m e] :: .agg #[.bool b', .slice A' n' c', .slice D' m' e'] :: .agg #[.bool b2, .slice A2 n2 c2, .slice D2 m2 e2] :: .slice (some ⟨w.heap.size + 1 + 1 + 1, 0, none⟩) 3 3 :: .bool true :: .bool false :: .bool false :: .bool true :: .bool false :: .bool false :: undef :: xf 0 :: xf 1 :: xf 2 :: xf 3 :: xf 4 :: xf 5 :: xf 6 :: xf 7 :: xf 8 :: xf 9 :: xf 10 :: xf 11 :: xf 12 :: xf 13 :: xf 14 :: xf 15 :: xf 16 :: xf 17 :: xf 18 :: xf 19 :: undef :: undef :: undef :: undef :: undef :: undef :: undef :: undef :: undef :: undef :: undef :: undef :: undef :: undef :: undef :: undef :: undef :: undef :: undef :: undef :: undef :: undef :: undef :: undef :: undef :: undef :: undef :: undef :: undef :: undef :: undef :: undef :: undef :: undef :: undef :: undef :: undef :: undef :: undef :: undef :: undef :: undef :: undef :: undef :: undef :: undef :: undef :: undef :: undef :: undef :: undef :: undef :: undef :: undef :: undef :: undef :: undef :: undef :: undef :: undef :: undef :: undef :: undef :: undef :: undef :: undef :: undef :: undef :: undef :: undef :: undef :: undef :: undef :: undef :: undef :: undef :: undef :: undef :: undef :: undef :: undef :: undef :: undef :: undef :: undef :: []), []⟩) (R := fun ri => List.getD ((PEq (.agg #[.bool b, .slice A n c, .slice D m e])) :: (PEq (.agg #[.bool b', .slice A' n' c', .slice D' m' e'])) :: (VQ ((q) + (q')) ((12) + (12) + 1)) :: (PEq (.agg #[.bool b', .slice A' n' c', .slice D' m' e'])) :: (PEq (.agg #[.bool b, .slice A n c, .slice D m e])) :: (VQ ((q') + (q)) ((12) + (12) + 1)) :: (PEq (.bool true)) :: (PEq (.bool true)) :: (PEq (.agg #[.bool b, .slice A n c, .slice D m e])) :: (PEq (.agg #[.bool b', .slice A' n' c', .slice D' m' e'])) :: (VQ ((q) + (q')) ((12) + (12) + 1)) :: (PEq (.agg #[.bool b2, .slice A2 n2 c2, .slice D2 m2 e2])) :: (VQ (((q) + (q')) + (q2)) (((12) + (12) + 1) + (12) + 1)) :: (PEq (.agg #[.bool b, .slice A n c, .slice D m e])) :: (PEq (.agg #[.bool b', .slice A' n' c', .slice D' m' e'])) :: (PEq (.agg #[.bool b2, .slice A2 n2 c2, .slice D2 m2 e2])) :: (VQ ((q') + (q2)) ((12) + (12) + 1)) :: (VQ ((q) + ((q') + (q2))) ((12) + ((12) + (12) + 1) + 1)) :: (PEq (.bool true)) :: (PEq (.bool true)) :: (PEq (.bool true)) :: []) ri (fun _ _ => True)) (es := []) (ow := [⟨w.heap.size, 21, 0, 24, #[.bool b, .slice A n c, .slice D m e], CAny⟩, ⟨w.heap.size + 1, 21, 0, 24, #[.bool b', .slice A' n' c', .slice D' m' e'], CAny⟩, ⟨w.heap.size + 1 + 1, 21, 0, 24, #[.bool b2, .slice A2 n2 c2, .slice D2 m2 e2], CAny⟩, ⟨w.heap.size + 1 + 1 + 1, 21, 0, 24, #[.bool b, .slice A n c, .slice D m e, .bool b', .slice A' n' c', .slice D' m' e', .bool b2, .slice A2 n2 c2, .slice D2 m2 e2], CAny⟩]) (x0 := (fun _ => undef)) (by kernel_rfl)
      (each_of ⟨fun _ _ => rfl, fun _ _ => rfl, fun _ _ => rfl, fun _ _ => rfl, fun _ _ => rfl, fun _ _ => rfl, fun _ _ => rfl, fun _ _ => rfl, fun _ _ => rfl, fun _ _ => rfl, fun _ _ => rfl, fun _ _ => rfl, fun _ _ => rfl, fun _ _ => rfl, fun _ _ => rfl, fun _ _ => rfl, fun _ _ => rfl, fun _ _ => rfl, fun _ _ => rfl, fun _ _ => rfl, fun _ _ => rfl, trivial⟩) (each_of (acyc_from _ 0 (by kernel_rfl))) (AllStab.get _ ⟨stEq _, stEq _, stQ _ _, stEq _, stEq _, stQ _ _, stEq _, stEq _, stEq _, stEq _, stQ _ _, stEq _, stQ _ _, stEq _, stEq _, stEq _, stQ _ _, stQ _ _, stEq _, stEq _, stEq _, trivial⟩)
      (fun _ h => nomatch h) (List.forall_mem_cons.2 ⟨scAny, List.forall_mem_cons.2 ⟨scAny, List.forall_mem_cons.2 ⟨scAny, List.forall_mem_cons.2 ⟨scAny, fun _ h => nomatch h⟩⟩⟩⟩) (fun _ h => nomatch h) bw2.size
      (List.forall_mem_cons.2 ⟨⟨x1a, by show w.heap.size ≤ w.heap.size; omega⟩, List.forall_mem_cons.2 ⟨⟨x1b, by show w.heap.size ≤ w.heap.size + 1; omega⟩, List.forall_mem_cons.2 ⟨⟨x1c, by show w.heap.size ≤ w.heap.size + 1 + 1; omega⟩, List.forall_mem_cons.2 ⟨⟨x1d, by show w.heap.size ≤ w.heap.size + 1 + 1 + 1; omega⟩, fun _ h => nomatch h⟩⟩⟩⟩) (ownDist (by simp <;> omega))
      (each_of ⟨?_, ?_, ?_, ?_, ?_, ?_, ?_, ?_, ?_, ?_, ?_, ?_, ?_, ?_, ?_, ?_, ?_, ?_, ?_, ?_, ?_, trivial⟩) ?_
    · exact .inl ⟨by simp, by simp, fun xf wq hk hbl hd K hK => by
        have y : Blk wq w.heap.size 24 #[.bool b, .slice A n c, .slice D m e] := hbl _ (List.Mem.head _) (by simp [Region.binds])
        obtain ⟨hcl0, hcl1, hcl2⟩ := y.c3
        (try dsimp only)
        go_simp
        exact hK.out (.agg #[.bool b, .slice A n c, .slice D m e]) _ rfl (brefl _)⟩
    · exact .inl ⟨by simp, by simp, fun xf wq hk hbl hd K hK => by
        have y : Blk wq (w.heap.size + 1) 24 #[.bool b', .slice A' n' c', .slice D' m' e'] := hbl _ (List.Mem.tail _ (List.Mem.head _)) (by simp [Region.binds])
        obtain ⟨hcl0, hcl1, hcl2⟩ := y.c3
        (try dsimp only)
        go_simp
        exact hK.out (.agg #[.bool b', .slice A' n' c', .slice D' m' e']) _ rfl (brefl _)⟩
    · exact .inl ⟨by simp, by simp, fun xf wq hk hbl hd K hK => by
        have dq0 : xf 0 = .agg #[.bool b, .slice A n c, .slice D m e] := hd ⟨0, .data⟩ (by simp) rfl
        have dq1 : xf 1 = .agg #[.bool b', .slice A' n' c', .slice D' m' e'] := hd ⟨1, .data⟩ (by simp) rfl
        (try dsimp only); (try simp only [dq0, dq1])
        go_simp
        go_at_call 42
        (with_reducible refine (f_add _ b A n c D m e (q) (12) ?_ b' A' n' c' D' m' e' (q') (12) ?_ ?_ ?_ ?_ ?_).mono ?_); (exact (H.keep hk)); (exact (H'.keep hk)); (first | omega | decide | assumption); (first | omega | decide | assumption); (first | omega | decide | assumption); (first | omega | decide | assumption); rintro e wr ⟨b4, A4, n4, c4, A'4, n'4, c'4, rfl, h4, hbr⟩
        have hz := hK.out _ _ ⟨b4, A4, n4, c4, A'4, n'4, c'4, rfl, h4⟩ hbr
        simp only [dq0, dq1] at hz
        exact hz⟩
    · exact .inl ⟨by simp, by simp, fun xf wq hk hbl hd K hK => by
        have y : Blk wq (w.heap.size + 1) 24 #[.bool b', .slice A' n' c', .slice D' m' e'] := hbl _ (List.Mem.tail _ (List.Mem.head _)) (by simp [Region.binds])
        obtain ⟨hcl0, hcl1, hcl2⟩ := y.c3
        (try dsimp only)
        go_simp
        exact hK.out (.agg #[.bool b', .slice A' n' c', .slice D' m' e']) _ rfl (brefl _)⟩
    · exact .inl ⟨by simp, by simp, fun xf wq hk hbl hd K hK => by
        have y : Blk wq w.heap.size 24 #[.bool b, .slice A n c, .slice D m e] := hbl _ (List.Mem.head _) (by simp [Region.binds])
        obtain ⟨hcl0, hcl1, hcl2⟩ := y.c3
        (try dsimp only)
        go_simp
        exact hK.out (.agg #[.bool b, .slice A n c, .slice D m e]) _ rfl (brefl _)⟩
    · exact .inl ⟨by simp, by simp, fun xf wq hk hbl hd K hK => by
        have dq3 : xf 3 = .agg #[.bool b', .slice A' n' c', .slice D' m' e'] := hd ⟨3, .data⟩ (by simp) rfl
        have dq4 : xf 4 = .agg #[.bool b, .slice A n c, .slice D m e] := hd ⟨4, .data⟩ (by simp) rfl
        (try dsimp only); (try simp only [dq3, dq4])
        go_simp
        go_at_call 42
        (with_reducible refine (f_add _ b' A' n' c' D' m' e' (q') (12) ?_ b A n c D m e (q) (12) ?_ ?_ ?_ ?_ ?_).mono ?_); (exact (H'.keep hk)); (exact (H.keep hk)); (first | omega | decide | assumption); (first | omega | decide | assumption); (first | omega | decide | assumption); (first | omega | decide | assumption); rintro e wr ⟨b5, A5, n5, c5, A'5, n'5, c'5, rfl, h5, hbr⟩
        have hz := hK.out _ _ ⟨b5, A5, n5, c5, A'5, n'5, c'5, rfl, h5⟩ hbr
        simp only [dq3, dq4] at hz
        exact hz⟩
    · exact .inl ⟨by simp, by simp, fun xf wq hk hbl hd K hK => by
        obtain ⟨b4, A4, n4, c4, A'4, n'4, c'4, dq2, h4⟩ : VQ ((q) + (q')) ((12) + (12) + 1) (xf 2) wq := hd ⟨2, .data⟩ (by simp) rfl
        obtain ⟨b5, A5, n5, c5, A'5, n'5, c'5, dq5, h5⟩ : VQ ((q') + (q)) ((12) + (12) + 1) (xf 5) wq := hd ⟨5, .data⟩ (by simp) rfl
        (try dsimp only); (try simp only [dq2, dq5])
        go_simp
        go_at_call 33
        (with_reducible refine (rs_same _ b4 A4 n4 c4 A'4 n'4 c'4 ((q) + (q')) ((12) + (12) + 1) ?_ b5 A5 n5 c5 A'5 n'5 c'5 ((q') + (q)) ((12) + (12) + 1) ?_  ?_ ?_).mono ?_); (exact h4); (exact h5); (exact Rat.add_comm _ _); (omega); rintro e wr ⟨rfl, hbr⟩
        have hz := hK.out (.bool true) _ rfl hbr
        simp only [dq2, dq5] at hz
        exact hz⟩
    · exact .inl ⟨by simp, by simp, fun xf wq hk hbl hd K hK => by
        have dq6 : xf 6 = .bool true := hd ⟨6, .data⟩ (by simp) rfl
        (try dsimp only); (try simp only [dq6])
        go_simp
        have hz := hK.out (.bool true) _ rfl (brefl _)
        simp only [dq6] at hz
        exact hz⟩
    · exact .inl ⟨by simp, by simp, fun xf wq hk hbl hd K hK => by
        have dq7 : xf 7 = .bool true := hd ⟨7, .guard⟩ (by simp) rfl
        have y : Blk wq w.heap.size 24 #[.bool b, .slice A n c, .slice D m e] := hbl _ (List.Mem.head _) (by simp [Region.binds])
        obtain ⟨hcl0, hcl1, hcl2⟩ := y.c3
        (try dsimp only); (try simp only [dq7])
        go_simp
        have hz := hK.out (.agg #[.bool b, .slice A n c, .slice D m e]) _ rfl (brefl _)
        simp only [dq7] at hz
        exact hz⟩
    · exact .inl ⟨by simp, by simp, fun xf wq hk hbl hd K hK => by
        have dq7 : xf 7 = .bool true := hd ⟨7, .guard⟩ (by simp) rfl
        have y : Blk wq (w.heap.size + 1) 24 #[.bool b', .slice A' n' c', .slice D' m' e'] := hbl _ (List.Mem.tail _ (List.Mem.head _)) (by simp [Region.binds])
        obtain ⟨hcl0, hcl1, hcl2⟩ := y.c3
        (try dsimp only); (try simp only [dq7])
        go_simp
        have hz := hK.out (.agg #[.bool b', .slice A' n' c', .slice D' m' e']) _ rfl (brefl _)
        simp only [dq7] at hz
        exact hz⟩
    · exact .inl ⟨by simp, by simp, fun xf wq hk hbl hd K hK => by
        have dq8 : xf 8 = .agg #[.bool b, .slice A n c, .slice D m e] := hd ⟨8, .data⟩ (by simp) rfl
        have dq9 : xf 9 = .agg #[.bool b', .slice A' n' c', .slice D' m' e'] := hd ⟨9, .data⟩ (by simp) rfl
        have dq7 : xf 7 = .bool true := hd ⟨7, .guard⟩ (by simp) rfl
        (try dsimp only); (try simp only [dq8, dq9, dq7])
        go_simp
        go_at_call 42
        (with_reducible refine (f_add _ b A n c D m e (q) (12) ?_ b' A' n' c' D' m' e' (q') (12) ?_ ?_ ?_ ?_ ?_).mono ?_); (exact (H.keep hk)); (exact (H'.keep hk)); (first | omega | decide | assumption); (first | omega | decide | assumption); (first | omega | decide | assumption); (first | omega | decide | assumption); rintro e wr ⟨b7, A7, n7, c7, A'7, n'7, c'7, rfl, h7, hbr⟩
        have hz := hK.out _ _ ⟨b7, A7, n7, c7, A'7, n'7, c'7, rfl, h7⟩ hbr
        simp only [dq8, dq9, dq7] at hz
        exact hz⟩
    · exact .inl ⟨by simp, by simp, fun xf wq hk hbl hd K hK => by
        have dq7 : xf 7 = .bool true := hd ⟨7, .guard⟩ (by simp) rfl
        have y : Blk wq (w.heap.size + 1 + 1) 24 #[.bool b2, .slice A2 n2 c2, .slice D2 m2 e2] := hbl _ (List.Mem.tail _ (List.Mem.tail _ (List.Mem.head _))) (by simp [Region.binds])
        obtain ⟨hcl0, hcl1, hcl2⟩ := y.c3
        (try dsimp only); (try simp only [dq7])
        go_simp
        have hz := hK.out (.agg #[.bool b2, .slice A2 n2 c2, .slice D2 m2 e2]) _ rfl (brefl _)
        simp only [dq7] at hz
        exact hz⟩
    · exact .inl ⟨by simp, by simp, fun xf wq hk hbl hd K hK => by
        obtain ⟨b7, A7, n7, c7, A'7, n'7, c'7, dq10, h7⟩ : VQ ((q) + (q')) ((12) + (12) + 1) (xf 10) wq := hd ⟨10, .data⟩ (by simp) rfl
        have dq11 : xf 11 = .agg #[.bool b2, .slice A2 n2 c2, .slice D2 m2 e2] := hd ⟨11, .data⟩ (by simp) rfl
        have dq7 : xf 7 = .bool true := hd ⟨7, .guard⟩ (by simp) rfl
        (try dsimp only); (try simp only [dq10, dq11, dq7])
        go_simp
        go_at_call 42
        (with_reducible refine (f_add _ b7 A7 n7 c7 A'7 n'7 c'7 ((q) + (q')) ((12) + (12) + 1) ?_ b2 A2 n2 c2 D2 m2 e2 (q2) (12) ?_ ?_ ?_ ?_ ?_).mono ?_); (exact h7.qz); (exact (H2.keep hk)); (first | omega | decide | assumption); (first | omega | decide | assumption); (first | omega | decide | assumption); (first | omega | decide | assumption); rintro e wr ⟨b8, A8, n8, c8, A'8, n'8, c'8, rfl, h8, hbr⟩
        have hz := hK.out _ _ ⟨b8, A8, n8, c8, A'8, n'8, c'8, rfl, h8⟩ hbr
        simp only [dq10, dq11, dq7] at hz
        exact hz⟩
    · exact .inl ⟨by simp, by simp, fun xf wq hk hbl hd K hK => by
        have dq7 : xf 7 = .bool true := hd ⟨7, .guard⟩ (by simp) rfl
        have y : Blk wq w.heap.size 24 #[.bool b, .slice A n c, .slice D m e] := hbl _ (List.Mem.head _) (by simp [Region.binds])
        obtain ⟨hcl0, hcl1, hcl2⟩ := y.c3
        (try dsimp only); (try simp only [dq7])
        go_simp
        have hz := hK.out (.agg #[.bool b, .slice A n c, .slice D m e]) _ rfl (brefl _)
        simp only [dq7] at hz
        exact hz⟩
    · exact .inl ⟨by simp, by simp, fun xf wq hk hbl hd K hK => by
        have dq7 : xf 7 = .bool true := hd ⟨7, .guard⟩ (by simp) rfl
        have y : Blk wq (w.heap.size + 1) 24 #[.bool b', .slice A' n' c', .slice D' m' e'] := hbl _ (List.Mem.tail _ (List.Mem.head _)) (by simp [Region.binds])
        obtain ⟨hcl0, hcl1, hcl2⟩ := y.c3
        (try dsimp only); (try simp only [dq7])
        go_simp
        have hz := hK.out (.agg #[.bool b', .slice A' n' c', .slice D' m' e']) _ rfl (brefl _)
        simp only [dq7] at hz
        exact hz⟩
    · exact .inl ⟨by simp, by simp, fun xf wq hk hbl hd K hK => by
        have dq7 : xf 7 = .bool true := hd ⟨7, .guard⟩ (by simp) rfl
        have y : Blk wq (w.heap.size + 1 + 1) 24 #[.bool b2, .slice A2 n2 c2, .slice D2 m2 e2] := hbl _ (List.Mem.tail _ (List.Mem.tail _ (List.Mem.head _))) (by simp [Region.binds])
        obtain ⟨hcl0, hcl1, hcl2⟩ := y.c3
        (try dsimp only); (try simp only [dq7])
        go_simp
        have hz := hK.out (.agg #[.bool b2, .slice A2 n2 c2, .slice D2 m2 e2]) _ rfl (brefl _)
        simp only [dq7] at hz
        exact hz⟩
    · exact .inl ⟨by simp, by simp, fun xf wq hk hbl hd K hK => by
        have dq14 : xf 14 = .agg #[.bool b', .slice A' n' c', .slice D' m' e'] := hd ⟨14, .data⟩ (by simp) rfl
        have dq15 : xf 15 = .agg #[.bool b2, .slice A2 n2 c2, .slice D2 m2 e2] := hd ⟨15, .data⟩ (by simp) rfl
        have dq7 : xf 7 = .bool true := hd ⟨7, .guard⟩ (by simp) rfl
        (try dsimp only); (try simp only [dq14, dq15, dq7])
        go_simp
        go_at_call 42
        (with_reducible refine (f_add _ b' A' n' c' D' m' e' (q') (12) ?_ b2 A2 n2 c2 D2 m2 e2 (q2) (12) ?_ ?_ ?_ ?_ ?_).mono ?_); (exact (H'.keep hk)); (exact (H2.keep hk)); (first | omega | decide | assumption); (first | omega | decide | assumption); (first | omega | decide | assumption); (first | omega | decide | assumption); rintro e wr ⟨b9, A9, n9, c9, A'9, n'9, c'9, rfl, h9, hbr⟩
        have hz := hK.out _ _ ⟨b9, A9, n9, c9, A'9, n'9, c'9, rfl, h9⟩ hbr
        simp only [dq14, dq15, dq7] at hz
        exact hz⟩
    · exact .inl ⟨by simp, by simp, fun xf wq hk hbl hd K hK => by
        have dq13 : xf 13 = .agg #[.bool b, .slice A n c, .slice D m e] := hd ⟨13, .data⟩ (by simp) rfl
        obtain ⟨b9, A9, n9, c9, A'9, n'9, c'9, dq16, h9⟩ : VQ ((q') + (q2)) ((12) + (12) + 1) (xf 16) wq := hd ⟨16, .data⟩ (by simp) rfl
        have dq7 : xf 7 = .bool true := hd ⟨7, .guard⟩ (by simp) rfl
        (try dsimp only); (try simp only [dq13, dq16, dq7])
        go_simp
        go_at_call 42
        (with_reducible refine (f_add _ b A n c D m e (q) (12) ?_ b9 A9 n9 c9 A'9 n'9 c'9 ((q') + (q2)) ((12) + (12) + 1) ?_ ?_ ?_ ?_ ?_).mono ?_); (exact (H.keep hk)); (exact h9.qz); (first | omega | decide | assumption); (first | omega | decide | assumption); (first | omega | decide | assumption); (first | omega | decide | assumption); rintro e wr ⟨b10, A10, n10, c10, A'10, n'10, c'10, rfl, h10, hbr⟩
        have hz := hK.out _ _ ⟨b10, A10, n10, c10, A'10, n'10, c'10, rfl, h10⟩ hbr
        simp only [dq13, dq16, dq7] at hz
        exact hz⟩
    · exact .inl ⟨by simp, by simp, fun xf wq hk hbl hd K hK => by
        obtain ⟨b8, A8, n8, c8, A'8, n'8, c'8, dq12, h8⟩ : VQ (((q) + (q')) + (q2)) (((12) + (12) + 1) + (12) + 1) (xf 12) wq := hd ⟨12, .data⟩ (by simp) rfl
        obtain ⟨b10, A10, n10, c10, A'10, n'10, c'10, dq17, h10⟩ : VQ ((q) + ((q') + (q2))) ((12) + ((12) + (12) + 1) + 1) (xf 17) wq := hd ⟨17, .data⟩ (by simp) rfl
        have dq7 : xf 7 = .bool true := hd ⟨7, .guard⟩ (by simp) rfl
        (try dsimp only); (try simp only [dq12, dq17, dq7])
        go_simp
        go_at_call 33
        (with_reducible refine (rs_same _ b8 A8 n8 c8 A'8 n'8 c'8 (((q) + (q')) + (q2)) (((12) + (12) + 1) + (12) + 1) ?_ b10 A10 n10 c10 A'10 n'10 c'10 ((q) + ((q') + (q2))) ((12) + ((12) + (12) + 1) + 1) ?_  ?_ ?_).mono ?_); (exact h8); (exact h10); (exact Rat.add_assoc _ _ _); (omega); rintro e wr ⟨rfl, hbr⟩
        have hz := hK.out (.bool true) _ rfl hbr
        simp only [dq12, dq17, dq7] at hz
        exact hz⟩
    · exact .inl ⟨by simp, by simp, fun xf wq hk hbl hd K hK => by
        have dq7 : xf 7 = .bool true := hd ⟨7, .data⟩ (by simp) rfl
        have dq18 : xf 18 = .bool true := hd ⟨18, .data⟩ (by simp) rfl
        (try dsimp only); (try simp only [dq7, dq18])
        go_simp
        have hz := hK.out (.bool true) _ rfl (brefl _)
        simp only [dq7, dq18] at hz
        exact hz⟩
    · exact .inl ⟨by simp, by simp, fun xf wq hk hbl hd K hK => by
        have dq19 : xf 19 = .bool true := hd ⟨19, .data⟩ (by simp) rfl
        (try dsimp only); (try simp only [dq19])
        go_simp
        have hz := hK.out (.bool true) _ rfl (brefl _)
        simp only [dq19] at hz
        exact hz⟩
    clear cx1aa cx1ab cx1ac lx1aa lx1ab lx1ac lx1ad cx1ba cx1bb cx1bc lx1ba lx1bb lx1bc lx1bd cx1ca cx1cb cx1cc lx1ca lx1cb lx1cc lx1cd
    intro y3 w3 kq3 hbl3 lw3 how hrr hfl hds
    replace H := H.keep kq3
    replace H' := H'.keep kq3
    replace H2 := H2.keep kq3
    obtain ⟨_, z3_0, ez, _⟩ := how _ (List.Mem.head _)
    obtain rfl := ez (by simp)
    dsimp only at z3_0
    obtain ⟨_, z3_1, ez, _⟩ := how _ (List.Mem.tail _ (List.Mem.head _))
    obtain rfl := ez (by simp)
    dsimp only at z3_1
    obtain ⟨_, z3_2, ez, _⟩ := how _ (List.Mem.tail _ (List.Mem.tail _ (List.Mem.head _)))
    obtain rfl := ez (by simp)
    dsimp only at z3_2
    obtain ⟨_, z3_3, ez, _⟩ := how _ (List.Mem.tail _ (List.Mem.tail _ (List.Mem.tail _ (List.Mem.head _))))
    obtain rfl := ez (by simp)
    dsimp only at z3_3
    have ea20 : y3 20 = .bool true := hrr 20 (by simp)
    (try dsimp only)
    simp only [ea20]
    clear hrr hfl how hds ea20
    clear x1a x1b x1c x1d
    have bw3 := bw2.trans hbl3
    clear bw2
    have cz3_0_0 : w3.cell? ⟨w.heap.size, 0, none⟩ = some (.bool b) := z3_0.cell 0
    have cz3_0_1 : w3.cell? ⟨w.heap.size, 1, none⟩ = some (.slice A n c) := z3_0.cell 1
    have cz3_0_2 : w3.cell? ⟨w.heap.size, 2, none⟩ = some (.slice D m e) := z3_0.cell 2
    obtain ⟨lz3_0_0, lz3_0_1, lz3_0_2, lz3_0_3⟩ := lts0 z3_0.lt
    have cz3_1_0 : w3.cell? ⟨w.heap.size + 1, 0, none⟩ = some (.bool b') := z3_1.cell 0
    have cz3_1_1 : w3.cell? ⟨w.heap.size + 1, 1, none⟩ = some (.slice A' n' c') := z3_1.cell 1
    have cz3_1_2 : w3.cell? ⟨w.heap.size + 1, 2, none⟩ = some (.slice D' m' e') := z3_1.cell 2
    obtain ⟨lz3_1_0, lz3_1_1, lz3_1_2, lz3_1_3⟩ := lts1 z3_1.lt
    have cz3_2_0 : w3.cell? ⟨w.heap.size + 1 + 1, 0, none⟩ = some (.bool b2) := z3_2.cell 0
    have cz3_2_1 : w3.cell? ⟨w.heap.size + 1 + 1, 1, none⟩ = some (.slice A2 n2 c2) := z3_2.cell 1
    have cz3_2_2 : w3.cell? ⟨w.heap.size + 1 + 1, 2, none⟩ = some (.slice D2 m2 e2) := z3_2.cell 2
    obtain ⟨lz3_2_0, lz3_2_1, lz3_2_2, lz3_2_3⟩ := lts2 z3_2.lt
    go_wp2_with fail
    refine wp_region_lin (B := w.heap.size) (fr := fun xf => ⟨List.toArray (.agg #[.bool b, .slice A n c, .slice D m e] :: .agg #[.bool b', .slice A' n' c', .slice D' m' e'] :: .agg #[.bool b2, .slice A2 n2 c2, .slice D2 m2 e2] :: .pointer (some ⟨w.heap.size, 0, none⟩) :: .pointer (some ⟨w.heap.size + 1, 0, none⟩) :: .pointer (some ⟨w.heap.size + 1 + 1, 0, none⟩) :: .bool false :: .bool true :: xf 20 :: undef :: undef :: undef :: .agg #[.bool b, .slice A n c, .slice D m e] :: .agg #[.bool b', .slice A' n' c', .slice D' m' e'] :: .agg #[.bool b2, .slice A2 n2 c2, .slice D2 m2 e2] :: .slice (some ⟨w.heap.size + 1 + 1 + 1, 0, none⟩) 3 3 :: .bool true :: .bool false :: .bool false :: .bool true :: .bool false :: .bool false :: undef :: y3 0 :: y3 1 :: y3 2 :: y3 3 :: y3 4 :: y3 5 :: y3 6 :: y3 7 :: y3 8 :: y3 9 :: y3 10 :: y3 11 :: y3 12 :: y3 13 :: y3 14 :: y3 15 :: y3 16 :: y3 17 :: y3 18 :: y3 19 :: xf 0 :: xf 1 :: xf 2 :: xf 3 :: xf 4 :: xf 5 :: xf 6 :: xf 7 :: xf 8 :: xf 9 :: xf 10 :: xf 11 :: xf 12 :: xf 13 :: xf 14 :: xf 15 :: xf 16 :: xf 17 :: xf 18 :: xf 19 :: undef :: undef :: undef :: undef :: undef :: undef :: undef :: undef :: undef :: undef :: undef :: undef :: undef :: undef :: undef :: undef :: undef :: undef :: undef :: undef :: undef :: undef :: undef :: undef :: undef :: undef :: undef :: undef :: undef :: undef :: undef :: undef :: undef :: undef :: undef :: undef :: undef :: undef :: undef :: undef :: undef :: undef :: undef :: undef :: undef :: undef :: undef :: undef :: undef :: undef :: undef :: undef :: undef :: undef :: undef :: undef :: undef :: undef :: undef :: undef :: undef :: undef :: undef :: undef :: undef :: []), []⟩) (R := fun ri => List.getD ((PEq (.agg #[.bool b, .slice A n c, .slice D m e])) :: (PEq (.agg #[.bool b', .slice A' n' c', .slice D' m' e'])) :: (VQ ((q) * (q')) ((12) + (12))) :: (PEq (.agg #[.bool b', .slice A' n' c', .slice D' m' e'])) :: (PEq (.agg #[.bool b, .slice A n c, .slice D m e])) :: (VQ ((q') * (q)) ((12) + (12))) :: (PEq (.bool true)) :: (PEq (.bool true)) :: (PEq (.agg #[.bool b, .slice A n c, .slice D m e])) :: (PEq (.agg #[.bool b', .slice A' n' c', .slice D' m' e'])) :: (VQ ((q) * (q')) ((12) + (12))) :: (PEq (.agg #[.bool b2, .slice A2 n2 c2, .slice D2 m2 e2])) :: (VQ (((q) * (q')) * (q2)) (((12) + (12)) + (12))) :: (PEq (.agg #[.bool b, .slice A n c, .slice D m e])) :: (PEq (.agg #[.bool b', .slice A' n' c', .slice D' m' e'])) :: (PEq (.agg #[.bool b2, .slice A2 n2 c2, .slice D2 m2 e2])) :: (VQ ((q') * (q2)) ((12) + (12))) :: (VQ ((q) * ((q') * (q2))) ((12) + ((12) + (12)))) :: (PEq (.bool true)) :: (PEq (.bool true)) :: (PEq (.bool true)) :: []) ri (fun _ _ => True)) (es := []) (ow := [⟨w.heap.size, 21, 0, 24, #[.bool b, .slice A n c, .slice D m e], CAny⟩, ⟨w.heap.size + 1, 21, 0, 24, #[.bool b', .slice A' n' c', .slice D' m' e'], CAny⟩, ⟨w.heap.size + 1 + 1, 21, 0, 24, #[.bool b2, .slice A2 n2 c2, .slice D2 m2 e2], CAny⟩, ⟨w.heap.size + 1 + 1 + 1, 21, 0, 24, #[.bool b, .slice A n c, .slice D m e, .bool b', .slice A' n' c', .slice D' m' e', .bool b2, .slice A2 n2 c2, .slice D2 m2 e2], CAny⟩]) (x0 := (fun _ => undef)) (by kernel_rfl)
      (each_of ⟨fun _ _ => rfl, fun _ _ => rfl, fun _ _ => rfl, fun _ _ => rfl, fun _ _ => rfl, fun _ _ => rfl, fun _ _ => rfl, fun _ _ => rfl, fun _ _ => rfl, fun _ _ => rfl, fun _ _ => rfl, fun _ _ => rfl, fun _ _ => rfl, fun _ _ => rfl, fun _ _ => rfl, fun _ _ => rfl, fun _ _ => rfl, fun _ _ => rfl, fun _ _ => rfl, fun _ _ => rfl, fun _ _ => rfl, trivial⟩) (each_of (acyc_from _ 0 (by kernel_rfl))) (AllStab.get _ ⟨stEq _, stEq _, stQ _ _, stEq _, stEq _, stQ _ _, stEq _, stEq _, stEq _, stEq _, stQ _ _, stEq _, stQ _ _, stEq _, stEq _, stEq _, stQ _ _, stQ _ _, stEq _, stEq _, stEq _, trivial⟩)
      (fun _ h => nomatch h) (List.forall_mem_cons.2 ⟨scAny, List.forall_mem_cons.2 ⟨scAny, List.forall_mem_cons.2 ⟨scAny, List.forall_mem_cons.2 ⟨scAny, fun _ h => nomatch h⟩⟩⟩⟩) (fun _ h => nomatch h) bw3.size
      (List.forall_mem_cons.2 ⟨⟨z3_0, by show w.heap.size ≤ w.heap.size; omega⟩, List.forall_mem_cons.2 ⟨⟨z3_1, by show w.heap.size ≤ w.heap.size + 1; omega⟩, List.forall_mem_cons.2 ⟨⟨z3_2, by show w.heap.size ≤ w.heap.size + 1 + 1; omega⟩, List.forall_mem_cons.2 ⟨⟨z3_3, by show w.heap.size ≤ w.heap.size + 1 + 1 + 1; omega⟩, fun _ h => nomatch h⟩⟩⟩⟩) (ownDist (by simp <;> omega))
      (each_of ⟨?_, ?_, ?_, ?_, ?_, ?_, ?_, ?_, ?_, ?_, ?_, ?_, ?_, ?_, ?_, ?_, ?_, ?_, ?_, ?_, ?_, trivial⟩) ?_
    · exact .inl ⟨by simp, by simp, fun xf wq hk hbl hd K hK => by
        have y : Blk wq w.heap.size 24 #[.bool b, .slice A n c, .slice D m e] := hbl _ (List.Mem.head _) (by simp [Region.binds])
        obtain ⟨hcl0, hcl1, hcl2⟩ := y.c3
        (try dsimp only)
        go_simp
        exact hK.out (.agg #[.bool b, .slice A n c, .slice D m e]) _ rfl (brefl _)⟩
    · exact .inl ⟨by simp, by simp, fun xf wq hk hbl hd K hK => by
        have y : Blk wq (w.heap.size + 1) 24 #[.bool b', .slice A' n' c', .slice D' m' e'] := hbl _ (List.Mem.tail _ (List.Mem.head _)) (by simp [Region.binds])
        obtain ⟨hcl0, hcl1, hcl2⟩ := y.c3
        (try dsimp only)
        go_simp
        exact hK.out (.agg #[.bool b', .slice A' n' c', .slice D' m' e']) _ rfl (brefl _)⟩
    · exact .inl ⟨by simp, by simp, fun xf wq hk hbl hd K hK => by
        have dq0 : xf 0 = .agg #[.bool b, .slice A n c, .slice D m e] := hd ⟨0, .data⟩ (by simp) rfl
        have dq1 : xf 1 = .agg #[.bool b', .slice A' n' c', .slice D' m' e'] := hd ⟨1, .data⟩ (by simp) rfl
        (try dsimp only); (try simp only [dq0, dq1])
        go_simp
        go_at_call 43
        (with_reducible refine (f_mul _ b A n c D m e (q) (12) ?_ b' A' n' c' D' m' e' (q') (12) ?_ ?_ ?_ ?_ ?_).mono ?_); (exact (H.keep hk)); (exact (H'.keep hk)); (first | omega | decide | assumption); (first | omega | decide | assumption); (first | omega | decide | assumption); (first | omega | decide | assumption); rintro e wr ⟨b14, A14, n14, c14, A'14, n'14, c'14, rfl, h14, hbr⟩
        have hz := hK.out _ _ ⟨b14, A14, n14, c14, A'14, n'14, c'14, rfl, h14⟩ hbr
        simp only [dq0, dq1] at hz
        exact hz⟩
    · exact .inl ⟨by simp, by simp, fun xf wq hk hbl hd K hK => by
        have y : Blk wq (w.heap.size + 1) 24 #[.bool b', .slice A' n' c', .slice D' m' e'] := hbl _ (List.Mem.tail _ (List.Mem.head _)) (by simp [Region.binds])
        obtain ⟨hcl0, hcl1, hcl2⟩ := y.c3
        (try dsimp only)
        go_simp
        exact hK.out (.agg #[.bool b', .slice A' n' c', .slice D' m' e']) _ rfl (brefl _)⟩
    · exact .inl ⟨by simp, by simp, fun xf wq hk hbl hd K hK => by
        have y : Blk wq w.heap.size 24 #[.bool b, .slice A n c, .slice D m e] := hbl _ (List.Mem.head _) (by simp [Region.binds])
        obtain ⟨hcl0, hcl1, hcl2⟩ := y.c3
        (try dsimp only)
        go_simp
        exact hK.out (.agg #[.bool b, .slice A n c, .slice D m e]) _ rfl (brefl _)⟩
    · exact .inl ⟨by simp, by simp, fun xf wq hk hbl hd K hK => by
        have dq3 : xf 3 = .agg #[.bool b', .slice A' n' c', .slice D' m' e'] := hd ⟨3, .data⟩ (by simp) rfl
        have dq4 : xf 4 = .agg #[.bool b, .slice A n c, .slice D m e] := hd ⟨4, .data⟩ (by simp) rfl
        (try dsimp only); (try simp only [dq3, dq4])
        go_simp
        go_at_call 43
        (with_reducible refine (f_mul _ b' A' n' c' D' m' e' (q') (12) ?_ b A n c D m e (q) (12) ?_ ?_ ?_ ?_ ?_).mono ?_); (exact (H'.keep hk)); (exact (H.keep hk)); (first | omega | decide | assumption); (first | omega | decide | assumption); (first | omega | decide | assumption); (first | omega | decide | assumption); rintro e wr ⟨b15, A15, n15, c15, A'15, n'15, c'15, rfl, h15, hbr⟩
        have hz := hK.out _ _ ⟨b15, A15, n15, c15, A'15, n'15, c'15, rfl, h15⟩ hbr
        simp only [dq3, dq4] at hz
        exact hz⟩
    · exact .inl ⟨by simp, by simp, fun xf wq hk hbl hd K hK => by
        obtain ⟨b14, A14, n14, c14, A'14, n'14, c'14, dq2, h14⟩ : VQ ((q) * (q')) ((12) + (12)) (xf 2) wq := hd ⟨2, .data⟩ (by simp) rfl
        obtain ⟨b15, A15, n15, c15, A'15, n'15, c'15, dq5, h15⟩ : VQ ((q') * (q)) ((12) + (12)) (xf 5) wq := hd ⟨5, .data⟩ (by simp) rfl
        (try dsimp only); (try simp only [dq2, dq5])
        go_simp
        go_at_call 33
        (with_reducible refine (rs_same _ b14 A14 n14 c14 A'14 n'14 c'14 ((q) * (q')) ((12) + (12)) ?_ b15 A15 n15 c15 A'15 n'15 c'15 ((q') * (q)) ((12) + (12)) ?_  ?_ ?_).mono ?_); (exact h14); (exact h15); (exact Rat.mul_comm _ _); (omega); rintro e wr ⟨rfl, hbr⟩
        have hz := hK.out (.bool true) _ rfl hbr
        simp only [dq2, dq5] at hz
        exact hz⟩
    · exact .inl ⟨by simp, by simp, fun xf wq hk hbl hd K hK => by
        have dq6 : xf 6 = .bool true := hd ⟨6, .data⟩ (by simp) rfl
        (try dsimp only); (try simp only [dq6])
        go_simp
        have hz := hK.out (.bool true) _ rfl (brefl _)
        simp only [dq6] at hz
        exact hz⟩
    · exact .inl ⟨by simp, by simp, fun xf wq hk hbl hd K hK => by
        have dq7 : xf 7 = .bool true := hd ⟨7, .guard⟩ (by simp) rfl
        have y : Blk wq w.heap.size 24 #[.bool b, .slice A n c, .slice D m e] := hbl _ (List.Mem.head _) (by simp [Region.binds])
        obtain ⟨hcl0, hcl1, hcl2⟩ := y.c3
        (try dsimp only); (try simp only [dq7])
        go_simp
        have hz := hK.out (.agg #[.bool b, .slice A n c, .slice D m e]) _ rfl (brefl _)
        simp only [dq7] at hz
        exact hz⟩
    · exact .inl ⟨by simp, by simp, fun xf wq hk hbl hd K hK => by
        have dq7 : xf 7 = .bool true := hd ⟨7, .guard⟩ (by simp) rfl
        have y : Blk wq (w.heap.size + 1) 24 #[.bool b', .slice A' n' c', .slice D' m' e'] := hbl _ (List.Mem.tail _ (List.Mem.head _)) (by simp [Region.binds])
        obtain ⟨hcl0, hcl1, hcl2⟩ := y.c3
        (try dsimp only); (try simp only [dq7])
        go_simp
        have hz := hK.out (.agg #[.bool b', .slice A' n' c', .slice D' m' e']) _ rfl (brefl _)
        simp only [dq7] at hz
        exact hz⟩
    · exact .inl ⟨by simp, by simp, fun xf wq hk hbl hd K hK => by
        have dq8 : xf 8 = .agg #[.bool b, .slice A n c, .slice D m e] := hd ⟨8, .data⟩ (by simp) rfl
        have dq9 : xf 9 = .agg #[.bool b', .slice A' n' c', .slice D' m' e'] := hd ⟨9, .data⟩ (by simp) rfl
        have dq7 : xf 7 = .bool true := hd ⟨7, .guard⟩ (by simp) rfl
        (try dsimp only); (try simp only [dq8, dq9, dq7])
        go_simp
        go_at_call 43
        (with_reducible refine (f_mul _ b A n c D m e (q) (12) ?_ b' A' n' c' D' m' e' (q') (12) ?_ ?_ ?_ ?_ ?_).mono ?_); (exact (H.keep hk)); (exact (H'.keep hk)); (first | omega | decide | assumption); (first | omega | decide | assumption); (first | omega | decide | assumption); (first | omega | decide | assumption); rintro e wr ⟨b17, A17, n17, c17, A'17, n'17, c'17, rfl, h17, hbr⟩
        have hz := hK.out _ _ ⟨b17, A17, n17, c17, A'17, n'17, c'17, rfl, h17⟩ hbr
        simp only [dq8, dq9, dq7] at hz
        exact hz⟩
    · exact .inl ⟨by simp, by simp, fun xf wq hk hbl hd K hK => by
        have dq7 : xf 7 = .bool true := hd ⟨7, .guard⟩ (by simp) rfl
        have y : Blk wq (w.heap.size + 1 + 1) 24 #[.bool b2, .slice A2 n2 c2, .slice D2 m2 e2] := hbl _ (List.Mem.tail _ (List.Mem.tail _ (List.Mem.head _))) (by simp [Region.binds])
        obtain ⟨hcl0, hcl1, hcl2⟩ := y.c3
        (try dsimp only); (try simp only [dq7])
        go_simp
        have hz := hK.out (.agg #[.bool b2, .slice A2 n2 c2, .slice D2 m2 e2]) _ rfl (brefl _)
        simp only [dq7] at hz
        exact hz⟩
    · exact .inl ⟨by simp, by simp, fun xf wq hk hbl hd K hK => by
        obtain ⟨b17, A17, n17, c17, A'17, n'17, c'17, dq10, h17⟩ : VQ ((q) * (q')) ((12) + (12)) (xf 10) wq := hd ⟨10, .data⟩ (by simp) rfl
        have dq11 : xf 11 = .agg #[.bool b2, .slice A2 n2 c2, .slice D2 m2 e2] := hd ⟨11, .data⟩ (by simp) rfl
        have dq7 : xf 7 = .bool true := hd ⟨7, .guard⟩ (by simp) rfl
        (try dsimp only); (try simp only [dq10, dq11, dq7])
        go_simp
        go_at_call 43
        (with_reducible refine (f_mul _ b17 A17 n17 c17 A'17 n'17 c'17 ((q) * (q')) ((12) + (12)) ?_ b2 A2 n2 c2 D2 m2 e2 (q2) (12) ?_ ?_ ?_ ?_ ?_).mono ?_); (exact h17.qz); (exact (H2.keep hk)); (first | omega | decide | assumption); (first | omega | decide | assumption); (first | omega | decide | assumption); (first | omega | decide | assumption); rintro e wr ⟨b18, A18, n18, c18, A'18, n'18, c'18, rfl, h18, hbr⟩
        have hz := hK.out _ _ ⟨b18, A18, n18, c18, A'18, n'18, c'18, rfl, h18⟩ hbr
        simp only [dq10, dq11, dq7] at hz
        exact hz⟩
    · exact .inl ⟨by simp, by simp, fun xf wq hk hbl hd K hK => by
        have dq7 : xf 7 = .bool true := hd ⟨7, .guard⟩ (by simp) rfl
        have y : Blk wq w.heap.size 24 #[.bool b, .slice A n c, .slice D m e] := hbl _ (List.Mem.head _) (by simp [Region.binds])
        obtain ⟨hcl0, hcl1, hcl2⟩ := y.c3
        (try dsimp only); (try simp only [dq7])
        go_simp
        have hz := hK.out (.agg #[.bool b, .slice A n c, .slice D m e]) _ rfl (brefl _)
        simp only [dq7] at hz
        exact hz⟩
    · exact .inl ⟨by simp, by simp, fun xf wq hk hbl hd K hK => by
        have dq7 : xf 7 = .bool true := hd ⟨7, .guard⟩ (by simp) rfl
        have y : Blk wq (w.heap.size + 1) 24 #[.bool b', .slice A' n' c', .slice D' m' e'] := hbl _ (List.Mem.tail _ (List.Mem.head _)) (by simp [Region.binds])
        obtain ⟨hcl0, hcl1, hcl2⟩ := y.c3
        (try dsimp only); (try simp only [dq7])
        go_simp
        have hz := hK.out (.agg #[.bool b', .slice A' n' c', .slice D' m' e']) _ rfl (brefl _)
        simp only [dq7] at hz
        exact hz⟩
    · exact .inl ⟨by simp, by simp, fun xf wq hk hbl hd K hK => by
        have dq7 : xf 7 = .bool true := hd ⟨7, .guard⟩ (by simp) rfl
        have y : Blk wq (w.heap.size + 1 + 1) 24 #[.bool b2, .slice A2 n2 c2, .slice D2 m2 e2] := hbl _ (List.Mem.tail _ (List.Mem.tail _ (List.Mem.head _))) (by simp [Region.binds])
        obtain ⟨hcl0, hcl1, hcl2⟩ := y.c3
        (try dsimp only); (try simp only [dq7])
        go_simp
        have hz := hK.out (.agg #[.bool b2, .slice A2 n2 c2, .slice D2 m2 e2]) _ rfl (brefl _)
        simp only [dq7] at hz
        exact hz⟩
    · exact .inl ⟨by simp, by simp, fun xf wq hk hbl hd K hK => by
        have dq14 : xf 14 = .agg #[.bool b', .slice A' n' c', .slice D' m' e'] := hd ⟨14, .data⟩ (by simp) rfl
        have dq15 : xf 15 = .agg #[.bool b2, .slice A2 n2 c2, .slice D2 m2 e2] := hd ⟨15, .data⟩ (by simp) rfl
        have dq7 : xf 7 = .bool true := hd ⟨7, .guard⟩ (by simp) rfl
        (try dsimp only); (try simp only [dq14, dq15, dq7])
        go_simp
        go_at_call 43
        (with_reducible refine (f_mul _ b' A' n' c' D' m' e' (q') (12) ?_ b2 A2 n2 c2 D2 m2 e2 (q2) (12) ?_ ?_ ?_ ?_ ?_).mono ?_); (exact (H'.keep hk)); (exact (H2.keep hk)); (first | omega | decide | assumption); (first | omega | decide | assumption); (first | omega | decide | assumption); (first | omega | decide | assumption); rintro e wr ⟨b19, A19, n19, c19, A'19, n'19, c'19, rfl, h19, hbr⟩
        have hz := hK.out _ _ ⟨b19, A19, n19, c19, A'19, n'19, c'19, rfl, h19⟩ hbr
        simp only [dq14, dq15, dq7] at hz
        exact hz⟩
    · exact .inl ⟨by simp, by simp, fun xf wq hk hbl hd K hK => by
        have dq13 : xf 13 = .agg #[.bool b, .slice A n c, .slice D m e] := hd ⟨13, .data⟩ (by simp) rfl
        obtain ⟨b19, A19, n19, c19, A'19, n'19, c'19, dq16, h19⟩ : VQ ((q') * (q2)) ((12) + (12)) (xf 16) wq := hd ⟨16, .data⟩ (by simp) rfl
        have dq7 : xf 7 = .bool true := hd ⟨7, .guard⟩ (by simp) rfl
        (try dsimp only); (try simp only [dq13, dq16, dq7])
        go_simp
        go_at_call 43
        (with_reducible refine (f_mul _ b A n c D m e (q) (12) ?_ b19 A19 n19 c19 A'19 n'19 c'19 ((q') * (q2)) ((12) + (12)) ?_ ?_ ?_ ?_ ?_).mono ?_); (exact (H.keep hk)); (exact h19.qz); (first | omega | decide | assumption); (first | omega | decide | assumption); (first | omega | decide | assumption); (first | omega | decide | assumption); rintro e wr ⟨b20, A20, n20, c20, A'20, n'20, c'20, rfl, h20, hbr⟩
        have hz := hK.out _ _ ⟨b20, A20, n20, c20, A'20, n'20, c'20, rfl, h20⟩ hbr
        simp only [dq13, dq16, dq7] at hz
        exact hz⟩
    · exact .inl ⟨by simp, by simp, fun xf wq hk hbl hd K hK => by
        obtain ⟨b18, A18, n18, c18, A'18, n'18, c'18, dq12, h18⟩ : VQ (((q) * (q')) * (q2)) (((12) + (12)) + (12)) (xf 12) wq := hd ⟨12, .data⟩ (by simp) rfl
        obtain ⟨b20, A20, n20, c20, A'20, n'20, c'20, dq17, h20⟩ : VQ ((q) * ((q') * (q2))) ((12) + ((12) + (12))) (xf 17) wq := hd ⟨17, .data⟩ (by simp) rfl
        have dq7 : xf 7 = .bool true := hd ⟨7, .guard⟩ (by simp) rfl
        (try dsimp only); (try simp only [dq12, dq17, dq7])
        go_simp
        go_at_call 33
        (with_reducible refine (rs_same _ b18 A18 n18 c18 A'18 n'18 c'18 (((q) * (q')) * (q2)) (((12) + (12)) + (12)) ?_ b20 A20 n20 c20 A'20 n'20 c'20 ((q) * ((q') * (q2))) ((12) + ((12) + (12))) ?_  ?_ ?_).mono ?_); (exact h18); (exact h20); (exact Rat.mul_assoc _ _ _); (omega); rintro e wr ⟨rfl, hbr⟩
        have hz := hK.out (.bool true) _ rfl hbr
        simp only [dq12, dq17, dq7] at hz
        exact hz⟩
    · exact .inl ⟨by simp, by simp, fun xf wq hk hbl hd K hK => by
        have dq7 : xf 7 = .bool true := hd ⟨7, .data⟩ (by simp) rfl
        have dq18 : xf 18 = .bool true := hd ⟨18, .data⟩ (by simp) rfl
        (try dsimp only); (try simp only [dq7, dq18])
        go_simp
        have hz := hK.out (.bool true) _ rfl (brefl _)
        simp only [dq7, dq18] at hz
        exact hz⟩
    · exact .inl ⟨by simp, by simp, fun xf wq hk hbl hd K hK => by
        have dq19 : xf 19 = .bool true := hd ⟨19, .data⟩ (by simp) rfl
        (try dsimp only); (try simp only [dq19])
        go_simp
        have hz := hK.out (.bool true) _ rfl (brefl _)
        simp only [dq19] at hz
        exact hz⟩
    clear cz3_0_0 cz3_0_1 cz3_0_2 lz3_0_0 lz3_0_1 lz3_0_2 lz3_0_3 cz3_1_0 cz3_1_1 cz3_1_2 lz3_1_0 lz3_1_1 lz3_1_2 lz3_1_3 cz3_2_0 cz3_2_1 cz3_2_2 lz3_2_0 lz3_2_1 lz3_2_2 lz3_2_3
    intro y13 w13 kq13 hbl13 lw13 how hrr hfl hds
    replace H := H.keep kq13
    replace H' := H'.keep kq13
    replace H2 := H2.keep kq13
    obtain ⟨_, z13_0, ez, _⟩ := how _ (List.Mem.head _)
    obtain rfl := ez (by simp)
    dsimp only at z13_0
    obtain ⟨_, z13_1, ez, _⟩ := how _ (List.Mem.tail _ (List.Mem.head _))
    obtain rfl := ez (by simp)
    dsimp only at z13_1
    obtain ⟨_, z13_2, ez, _⟩ := how _ (List.Mem.tail _ (List.Mem.tail _ (List.Mem.head _)))
    obtain rfl := ez (by simp)
    dsimp only at z13_2
    obtain ⟨_, z13_3, ez, _⟩ := how _ (List.Mem.tail _ (List.Mem.tail _ (List.Mem.tail _ (List.Mem.head _))))
    obtain rfl := ez (by simp)
    dsimp only at z13_3
    have ea20 : y13 20 = .bool true := hrr 20 (by simp)
    (try dsimp only)
    simp only [ea20]
    clear hrr hfl how hds ea20
    clear z3_0 z3_1 z3_2 z3_3
    have bw13 := bw3.trans hbl13
    clear bw3
    have cz13_0_0 : w13.cell? ⟨w.heap.size, 0, none⟩ = some (.bool b) := z13_0.cell 0
    have cz13_0_1 : w13.cell? ⟨w.heap.size, 1, none⟩ = some (.slice A n c) := z13_0.cell 1
    have cz13_0_2 : w13.cell? ⟨w.heap.size, 2, none⟩ = some (.slice D m e) := z13_0.cell 2
    obtain ⟨lz13_0_0, lz13_0_1, lz13_0_2, lz13_0_3⟩ := lts0 z13_0.lt
    have cz13_1_0 : w13.cell? ⟨w.heap.size + 1, 0, none⟩ = some (.bool b') := z13_1.cell 0
    have cz13_1_1 : w13.cell? ⟨w.heap.size + 1, 1, none⟩ = some (.slice A' n' c') := z13_1.cell 1
    have cz13_1_2 : w13.cell? ⟨w.heap.size + 1, 2, none⟩ = some (.slice D' m' e') := z13_1.cell 2
    obtain ⟨lz13_1_0, lz13_1_1, lz13_1_2, lz13_1_3⟩ := lts1 z13_1.lt
    have cz13_2_0 : w13.cell? ⟨w.heap.size + 1 + 1, 0, none⟩ = some (.bool b2) := z13_2.cell 0
    have cz13_2_1 : w13.cell? ⟨w.heap.size + 1 + 1, 1, none⟩ = some (.slice A2 n2 c2) := z13_2.cell 1
    have cz13_2_2 : w13.cell? ⟨w.heap.size + 1 + 1, 2, none⟩ = some (.slice D2 m2 e2) := z13_2.cell 2
    obtain ⟨lz13_2_0, lz13_2_1, lz13_2_2, lz13_2_3⟩ := lts2 z13_2.lt
    obtain ⟨lz13_3_0, lz13_3_1, lz13_3_2, lz13_3_3⟩ := lts3 z13_3.lt
    go_wp2_with fail
    go_region_held3 (fun w' => Sees w13.heap.size w13 w') (first | with_reducible exact Sees.of (Nat.le_refl _) (by assumption) | with_reducible exact Sees.of (Nat.le_refl _) (brefl _).drew | exact Sees.of (Nat.le_refl _) (below_drewN (brefl _) 1) | exact Sees.of (Nat.le_refl _) (below_drewN (by assumption) _))
      (first
        | (go_at_call 42; (with_reducible refine (f_add _ b' A' n' c' D' m' e' (q') (12) ?_ b2 A2 n2 c2 D2 m2 e2 (q2) (12) ?_ ?_ ?_ ?_ ?_).mono ?_); (exact H'); (exact H2); (first | omega | decide | assumption); (first | omega | decide | assumption); (first | omega | decide | assumption); (first | omega | decide | assumption); rintro e w23 ⟨b23, A23, n23, c23, A'23, n'23, c'23, rfl, h23, hb23⟩; replace hb23 := bnext (below_drewN (brefl _) 1) hb23; have q23 : Below w13.heap.size w13 w23 := bnext (brefl w13) hb23; replace H := H.belw hb23; replace H' := H'.belw hb23; replace H2 := H2.belw hb23)
        | (go_at_call 43; (with_reducible refine (f_mul _ b A n c D m e (q) (12) ?_ b23 A23 n23 c23 A'23 n'23 c'23 ((q') + (q2)) ((12) + (12) + 1) ?_ ?_ ?_ ?_ ?_).mono ?_); (exact H); (exact h23.qz); (first | omega | decide | assumption); (first | omega | decide | assumption); (first | omega | decide | assumption); (first | omega | decide | assumption); rintro e w24 ⟨b24, A24, n24, c24, A'24, n'24, c'24, rfl, h24, hb24⟩; have q24 : Below w13.heap.size w13 w24 := bnext q23 hb24; replace H := H.belw hb24; replace H' := H'.belw hb24; replace H2 := H2.belw hb24; replace h23 := h23.belw hb24)
        | (go_at_call 43; (with_reducible refine (f_mul _ b A n c D m e (q) (12) ?_ b' A' n' c' D' m' e' (q') (12) ?_ ?_ ?_ ?_ ?_).mono ?_); (exact H); (exact H'); (first | omega | decide | assumption); (first | omega | decide | assumption); (first | omega | decide | assumption); (first | omega | decide | assumption); rintro e w25 ⟨b25, A25, n25, c25, A'25, n'25, c'25, rfl, h25, hb25⟩; have q25 : Below w13.heap.size w13 w25 := bnext q24 hb25; replace H := H.belw hb25; replace H' := H'.belw hb25; replace H2 := H2.belw hb25; replace h23 := h23.belw hb25; replace h24 := h24.belw hb25)
        | (go_at_call 43; (with_reducible refine (f_mul _ b A n c D m e (q) (12) ?_ b2 A2 n2 c2 D2 m2 e2 (q2) (12) ?_ ?_ ?_ ?_ ?_).mono ?_); (exact H); (exact H2); (first | omega | decide | assumption); (first | omega | decide | assumption); (first | omega | decide | assumption); (first | omega | decide | assumption); rintro e w26 ⟨b26, A26, n26, c26, A'26, n'26, c'26, rfl, h26, hb26⟩; have q26 : Below w13.heap.size w13 w26 := bnext q25 hb26; replace H := H.belw hb26; replace H' := H'.belw hb26; replace H2 := H2.belw hb26; replace h23 := h23.belw hb26; replace h24 := h24.belw hb26; replace h25 := h25.belw hb26)
        | (go_at_call 42; (with_reducible refine (f_add _ b25 A25 n25 c25 A'25 n'25 c'25 ((q) * (q')) ((12) + (12)) ?_ b26 A26 n26 c26 A'26 n'26 c'26 ((q) * (q2)) ((12) + (12)) ?_ ?_ ?_ ?_ ?_).mono ?_); (exact h25.qz); (exact h26.qz); (first | omega | decide | assumption); (first | omega | decide | assumption); (first | omega | decide | assumption); (first | omega | decide | assumption); rintro e w27 ⟨b27, A27, n27, c27, A'27, n'27, c'27, rfl, h27, hb27⟩; have q27 : Below w13.heap.size w13 w27 := bnext q26 hb27; replace H := H.belw hb27; replace H' := H'.belw hb27; replace H2 := H2.belw hb27; replace h23 := h23.belw hb27; replace h24 := h24.belw hb27; replace h25 := h25.belw hb27; replace h26 := h26.belw hb27)
        | (go_at_call 33; (with_reducible refine (rs_same _ b24 A24 n24 c24 A'24 n'24 c'24 ((q) * ((q') + (q2))) ((12) + ((12) + (12) + 1)) ?_ b27 A27 n27 c27 A'27 n'27 c'27 (((q) * (q')) + ((q) * (q2))) (((12) + (12)) + ((12) + (12)) + 1) ?_  ?_ ?_).mono ?_); (exact h24); (exact h27); (exact Rat.mul_add _ _ _); (omega); rintro e w28 ⟨rfl, hb28⟩; have q28 : Below w13.heap.size w13 w28 := bnext q27 hb28; replace H := H.belw hb28; replace H' := H'.belw hb28; replace H2 := H2.belw hb28; replace h23 := h23.belw hb28; replace h24 := h24.belw hb28; replace h25 := h25.belw hb28; replace h26 := h26.belw hb28; replace h27 := h27.belw hb28))
    have bw28 := bw13.trans (q28.mono bw13.size)
    clear cz13_0_0 cz13_0_1 cz13_0_2 lz13_0_0 lz13_0_1 lz13_0_2 lz13_0_3 cz13_1_0 cz13_1_1 cz13_1_2 lz13_1_0 lz13_1_1 lz13_1_2 lz13_1_3 cz13_2_0 cz13_2_1 cz13_2_2 lz13_2_0 lz13_2_1 lz13_2_2 lz13_2_3 lz13_3_0 lz13_3_1 lz13_3_2 lz13_3_3
    replace z13_0 := z13_0.b q28
    replace z13_1 := z13_1.b q28
    replace z13_2 := z13_2.b q28
    replace z13_3 := z13_3.b q28
    have lw28 := q28.size
    obtain ⟨cz13_0_0, cz13_0_1, cz13_0_2⟩ := z13_0.c3
    obtain ⟨lz13_0_0, lz13_0_1, lz13_0_2, lz13_0_3⟩ := lts0 z13_0.lt
    obtain ⟨cz13_1_0, cz13_1_1, cz13_1_2⟩ := z13_1.c3
    obtain ⟨lz13_1_0, lz13_1_1, lz13_1_2, lz13_1_3⟩ := lts1 z13_1.lt
    go_wp2_with fail
    (with_reducible refine (f_add _ b A n c D m e (q) (12) ?_ b' A' n' c' D' m' e' (q') (12) ?_ ?_ ?_ ?_ ?_).mono ?_); (exact H); (exact H'); (first | omega | decide | assumption); (first | omega | decide | assumption); (first | omega | decide | assumption); (first | omega | decide | assumption); rintro e w29 ⟨b29, A29, n29, c29, A'29, n'29, c'29, rfl, h29, q29⟩
    clear cz13_0_0 cz13_0_1 cz13_0_2 lz13_0_0 lz13_0_1 lz13_0_2 lz13_0_3 cz13_1_0 cz13_1_1 cz13_1_2 lz13_1_0 lz13_1_1 lz13_1_2 lz13_1_3
    replace H := H.belw q29
    replace H' := H'.belw q29
    replace H2 := H2.belw q29
    replace h23 := h23.belw q29
    replace h24 := h24.belw q29
    replace h25 := h25.belw q29
    replace h26 := h26.belw q29
    replace h27 := h27.belw q29
    replace z13_0 := z13_0.b q29
    replace z13_1 := z13_1.b q29
    replace z13_2 := z13_2.b q29
    replace z13_3 := z13_3.b q29
    have bw29 := bw28.trans (q29.mono bw28.size)
    have lw29 := q29.size
    clear q29 bw28
    go_wp2_with fail
    (with_reducible refine (f_valid_v _ b29 A29 n29 c29 A'29 n'29 c'29 ((q) + (q')) ((12) + (12) + 1) ?_ ?_).mono ?_); (exact h29); (first | omega | decide | assumption); rintro e w30 ⟨rfl, q30⟩
    replace H := H.belw q30
    replace H' := H'.belw q30
    replace H2 := H2.belw q30
    replace h23 := h23.belw q30
    replace h24 := h24.belw q30
    replace h25 := h25.belw q30
    replace h26 := h26.belw q30
    replace h27 := h27.belw q30
    replace h29 := h29.belw q30
    replace z13_0 := z13_0.b q30
    replace z13_1 := z13_1.b q30
    replace z13_2 := z13_2.b q30
    replace z13_3 := z13_3.b q30
    have bw30 := bw29.trans (q30.mono bw29.size)
    have lw30 := q30.size
    clear q30 bw29
    obtain ⟨cz13_0_0, cz13_0_1, cz13_0_2⟩ := z13_0.c3
    obtain ⟨lz13_0_0, lz13_0_1, lz13_0_2, lz13_0_3⟩ := lts0 z13_0.lt
    obtain ⟨cz13_1_0, cz13_1_1, cz13_1_2⟩ := z13_1.c3
    obtain ⟨lz13_1_0, lz13_1_1, lz13_1_2, lz13_1_3⟩ := lts1 z13_1.lt
    go_wp2_with fail
    (with_reducible refine (f_mul _ b A n c D m e (q) (12) ?_ b' A' n' c' D' m' e' (q') (12) ?_ ?_ ?_ ?_ ?_).mono ?_); (exact H); (exact H'); (first | omega | decide | assumption); (first | omega | decide | assumption); (first | omega | decide | assumption); (first | omega | decide | assumption); rintro e w31 ⟨b31, A31, n31, c31, A'31, n'31, c'31, rfl, h31, q31⟩
    clear cz13_0_0 cz13_0_1 cz13_0_2 lz13_0_0 lz13_0_1 lz13_0_2 lz13_0_3 cz13_1_0 cz13_1_1 cz13_1_2 lz13_1_0 lz13_1_1 lz13_1_2 lz13_1_3
    replace H := H.belw q31
    replace H' := H'.belw q31
    replace H2 := H2.belw q31
    replace h23 := h23.belw q31
    replace h24 := h24.belw q31
    replace h25 := h25.belw q31
    replace h26 := h26.belw q31
    replace h27 := h27.belw q31
    replace h29 := h29.belw q31
    replace z13_0 := z13_0.b q31
    replace z13_1 := z13_1.b q31
    replace z13_2 := z13_2.b q31
    replace z13_3 := z13_3.b q31
    have bw31 := bw30.trans (q31.mono bw30.size)
    have lw31 := q31.size
    clear q31 bw30
    go_wp2_with fail
    (with_reducible refine (f_valid_v _ b31 A31 n31 c31 A'31 n'31 c'31 ((q) * (q')) ((12) + (12)) ?_ ?_).mono ?_); (exact h31); (first | omega | decide | assumption); rintro e w32 ⟨rfl, q32⟩
    replace H := H.belw q32
    replace H' := H'.belw q32
    replace H2 := H2.belw q32
    replace h23 := h23.belw q32
    replace h24 := h24.belw q32
    replace h25 := h25.belw q32
    replace h26 := h26.belw q32
    replace h27 := h27.belw q32
    replace h29 := h29.belw q32
    replace h31 := h31.belw q32
    replace z13_0 := z13_0.b q32
    replace z13_1 := z13_1.b q32
    replace z13_2 := z13_2.b q32
    replace z13_3 := z13_3.b q32
    have bw32 := bw31.trans (q32.mono bw31.size)
    have lw32 := q32.size
    clear q32 bw31
    obtain ⟨cz13_0_0, cz13_0_1, cz13_0_2⟩ := z13_0.c3
    obtain ⟨lz13_0_0, lz13_0_1, lz13_0_2, lz13_0_3⟩ := lts0 z13_0.lt
    go_wp2_with fail
    (with_reducible refine (f_sub _ b A n c D m e (q) (12) ?_ b A n c D m e (q) (12) ?_ ?_ ?_ ?_ ?_).mono ?_); (exact H); (exact H); (first | omega | decide | assumption); (first | omega | decide | assumption); (first | omega | decide | assumption); (first | omega | decide | assumption); rintro e w33 ⟨b33, A33, n33, c33, A'33, n'33, c'33, rfl, h33, q33⟩
    clear cz13_0_0 cz13_0_1 cz13_0_2 lz13_0_0 lz13_0_1 lz13_0_2 lz13_0_3
    replace H := H.belw q33
    replace H' := H'.belw q33
    replace H2 := H2.belw q33
    replace h23 := h23.belw q33
    replace h24 := h24.belw q33
    replace h25 := h25.belw q33
    replace h26 := h26.belw q33
    replace h27 := h27.belw q33
    replace h29 := h29.belw q33
    replace h31 := h31.belw q33
    replace z13_0 := z13_0.b q33
    replace z13_1 := z13_1.b q33
    replace z13_2 := z13_2.b q33
    replace z13_3 := z13_3.b q33
    have bw33 := bw32.trans (q33.mono bw32.size)
    have lw33 := q33.size
    clear q33 bw32
    go_wp2_with fail
    (with_reducible refine (f_sign_v _ b33 A33 n33 c33 A'33 n'33 c'33 ((q) - (q)) ((12) + (12) + 1) ?_ 0 (sub_self_sign _) ?_ ?_).mono ?_); (exact h33.qz); (first | omega | decide | assumption); (first | omega | decide | assumption); rintro e w34 ⟨rfl, q34⟩
    replace H := H.belw q34
    replace H' := H'.belw q34
    replace H2 := H2.belw q34
    replace h23 := h23.belw q34
    replace h24 := h24.belw q34
    replace h25 := h25.belw q34
    replace h26 := h26.belw q34
    replace h27 := h27.belw q34
    replace h29 := h29.belw q34
    replace h31 := h31.belw q34
    replace h33 := h33.belw q34
    replace z13_0 := z13_0.b q34
    replace z13_1 := z13_1.b q34
    replace z13_2 := z13_2.b q34
    replace z13_3 := z13_3.b q34
    have bw34 := bw33.trans (q34.mono bw33.size)
    have lw34 := q34.size
    clear q34 bw33
    obtain ⟨cz13_0_0, cz13_0_1, cz13_0_2⟩ := z13_0.c3
    obtain ⟨lz13_0_0, lz13_0_1, lz13_0_2, lz13_0_3⟩ := lts0 z13_0.lt
    obtain ⟨cz13_1_0, cz13_1_1, cz13_1_2⟩ := z13_1.c3
    obtain ⟨lz13_1_0, lz13_1_1, lz13_1_2, lz13_1_3⟩ := lts1 z13_1.lt
    go_wp2_with fail
    by_cases hz : q' = 0
    · have HD := Lib.hid hz
      have HS := Lib.hid (show q'.num.sign = 0 by rw [hz]; rfl)
      clear hz
      (with_reducible refine (f_div_0 _ b A n c D m e (q) (12) ?_ b' A' n' c' D' m' e' (q') (12) ?_ ?_ ?_ ?_ ?_ ?_).mono ?_); (exact H); (exact H'); (first | omega | decide | assumption); (first | omega | decide | assumption); (first | omega | decide | assumption); (first | omega | decide | assumption); (exact HD.out); rintro e w35 ⟨b35, A35, n35, c35, A'35, n'35, c'35, rfl, h35, q35⟩
      clear cz13_0_0 cz13_0_1 cz13_0_2 lz13_0_0 lz13_0_1 lz13_0_2 lz13_0_3 cz13_1_0 cz13_1_1 cz13_1_2 lz13_1_0 lz13_1_1 lz13_1_2 lz13_1_3
      replace H := H.belw q35
      replace H' := H'.belw q35
      replace H2 := H2.belw q35
      replace h23 := h23.belw q35
      replace h24 := h24.belw q35
      replace h25 := h25.belw q35
      replace h26 := h26.belw q35
      replace h27 := h27.belw q35
      replace h29 := h29.belw q35
      replace h31 := h31.belw q35
      replace h33 := h33.belw q35
      replace z13_0 := z13_0.b q35
      replace z13_1 := z13_1.b q35
      replace z13_2 := z13_2.b q35
      replace z13_3 := z13_3.b q35
      have bw35 := bw34.trans (q35.mono bw34.size)
      have lw35 := q35.size
      clear q35 bw34
      obtain ⟨cz13_1_0, cz13_1_1, cz13_1_2⟩ := z13_1.c3
      obtain ⟨lz13_1_0, lz13_1_1, lz13_1_2, lz13_1_3⟩ := lts1 z13_1.lt
      go_wp2_with fail
      (with_reducible refine (f_sign_v _ b' A' n' c' D' m' e' (q') (12) ?_ 0 HS.out ?_ ?_).mono ?_); (exact (H'.belw ((Below.refl _ _).alloc (Nat.le_refl _) _))); (first | omega | decide | assumption); (first | omega | decide | assumption); rintro e w36 ⟨rfl, hb36⟩
      clear cz13_1_0 cz13_1_1 cz13_1_2 lz13_1_0 lz13_1_1 lz13_1_2 lz13_1_3
      have q36 := ((Below.refl _ _).alloc (Nat.le_refl _) _).trans (hb36.mono (by simp))
      replace H := H.belw q36
      replace H' := H'.belw q36
      replace H2 := H2.belw q36
      replace h23 := h23.belw q36
      replace h24 := h24.belw q36
      replace h25 := h25.belw q36
      replace h26 := h26.belw q36
      replace h27 := h27.belw q36
      replace h29 := h29.belw q36
      replace h31 := h31.belw q36
      replace h33 := h33.belw q36
      replace h35 := h35.belw q36
      replace z13_0 := z13_0.b q36
      replace z13_1 := z13_1.b q36
      replace z13_2 := z13_2.b q36
      replace z13_3 := z13_3.b q36
      have x36a : Blk w36 w35.heap.size 24 #[.bool b35, .slice A35 n35 c35, .slice A'35 n'35 c'35] := (blkAt _ _ _ (by simp)).below hb36 (by simp)
      have bw36 := bw35.trans (q36.mono bw35.size)
      have lw36 : w35.heap.size + 1 ≤ w36.heap.size := by have := hb36.size; simp at this; omega
      clear q36 bw35
      go_wp2_with fail
      (with_reducible refine (b_is _ 8).mono ?_); rintro e w37 ⟨rfl, q37⟩
      replace H := H.belw q37
      replace H' := H'.belw q37
      replace H2 := H2.belw q37
      replace h23 := h23.belw q37
      replace h24 := h24.belw q37
      replace h25 := h25.belw q37
      replace h26 := h26.belw q37
      replace h27 := h27.belw q37
      replace h29 := h29.belw q37
      replace h31 := h31.belw q37
      replace h33 := h33.belw q37
      replace h35 := h35.belw q37
      replace z13_0 := z13_0.b q37
      replace z13_1 := z13_1.b q37
      replace z13_2 := z13_2.b q37
      replace z13_3 := z13_3.b q37
      replace x36a := x36a.b q37
      have bw37 := bw36.trans (q37.mono bw36.size)
      have lw37 := q37.size
      clear q37 bw36
      go_wp2_with fail
      go_ret
      exact retB rfl bw37
    · obtain ⟨s, hs⟩ : ∃ s, q'.num.sign = s := ⟨_, rfl⟩
      have hs0 : ¬ s = 0 := by rintro rfl; exact hz (Rat.num_eq_zero.1 (Int.sign_eq_zero_iff_zero.1 hs))
      have hs1 : ((s : Int) == 0) = false := by simpa using hs0
      have HD := Lib.hid hz
      have HS := Lib.hid hs
      clear hz hs
      (with_reducible refine (f_div _ b A n c D m e (q) (12) ?_ b' A' n' c' D' m' e' (q') (12) ?_ ?_ ?_ ?_ ?_ ?_).mono ?_); (exact H); (exact H'); (first | omega | decide | assumption); (first | omega | decide | assumption); (first | omega | decide | assumption); (first | omega | decide | assumption); (exact HD.out); rintro e w35 ⟨b35, A35, n35, c35, A'35, n'35, c'35, rfl, h35, q35⟩
      clear cz13_0_0 cz13_0_1 cz13_0_2 lz13_0_0 lz13_0_1 lz13_0_2 lz13_0_3 cz13_1_0 cz13_1_1 cz13_1_2 lz13_1_0 lz13_1_1 lz13_1_2 lz13_1_3
      replace H := H.belw q35
      replace H' := H'.belw q35
      replace H2 := H2.belw q35
      replace h23 := h23.belw q35
      replace h24 := h24.belw q35
      replace h25 := h25.belw q35
      replace h26 := h26.belw q35
      replace h27 := h27.belw q35
      replace h29 := h29.belw q35
      replace h31 := h31.belw q35
      replace h33 := h33.belw q35
      replace z13_0 := z13_0.b q35
      replace z13_1 := z13_1.b q35
      replace z13_2 := z13_2.b q35
      replace z13_3 := z13_3.b q35
      have bw35 := bw34.trans (q35.mono bw34.size)
      have lw35 := q35.size
      clear q35 bw34
      obtain ⟨cz13_1_0, cz13_1_1, cz13_1_2⟩ := z13_1.c3
      obtain ⟨lz13_1_0, lz13_1_1, lz13_1_2, lz13_1_3⟩ := lts1 z13_1.lt
      go_wp2_with fail
      (with_reducible refine (f_sign_v _ b' A' n' c' D' m' e' (q') (12) ?_ s HS.out ?_ ?_).mono ?_); (exact (H'.belw ((Below.refl _ _).alloc (Nat.le_refl _) _))); (first | omega | decide | assumption); (first | omega | decide | assumption); rintro e w36 ⟨rfl, hb36⟩
      clear cz13_1_0 cz13_1_1 cz13_1_2 lz13_1_0 lz13_1_1 lz13_1_2 lz13_1_3
      have q36 := ((Below.refl _ _).alloc (Nat.le_refl _) _).trans (hb36.mono (by simp))
      replace H := H.belw q36
      replace H' := H'.belw q36
      replace H2 := H2.belw q36
      replace h23 := h23.belw q36
      replace h24 := h24.belw q36
      replace h25 := h25.belw q36
      replace h26 := h26.belw q36
      replace h27 := h27.belw q36
      replace h29 := h29.belw q36
      replace h31 := h31.belw q36
      replace h33 := h33.belw q36
      replace h35 := h35.belw q36
      replace z13_0 := z13_0.b q36
      replace z13_1 := z13_1.b q36
      replace z13_2 := z13_2.b q36
      replace z13_3 := z13_3.b q36
      have x36a : Blk w36 w35.heap.size 24 #[.bool b35, .slice A35 n35 c35, .slice A'35 n'35 c'35] := (blkAt _ _ _ (by simp)).below hb36 (by simp)
      have bw36 := bw35.trans (q36.mono bw35.size)
      have lw36 : w35.heap.size + 1 ≤ w36.heap.size := by have := hb36.size; simp at this; omega
      clear q36 bw35
      obtain ⟨cz13_0_0, cz13_0_1, cz13_0_2⟩ := z13_0.c3
      obtain ⟨lz13_0_0, lz13_0_1, lz13_0_2, lz13_0_3⟩ := lts0 z13_0.lt
      obtain ⟨cz13_1_0, cz13_1_1, cz13_1_2⟩ := z13_1.c3
      obtain ⟨lz13_1_0, lz13_1_1, lz13_1_2, lz13_1_3⟩ := lts1 z13_1.lt
      obtain ⟨cx36aa, cx36ab, cx36ac⟩ := x36a.c3
      obtain ⟨lx36aa, lx36ab, lx36ac, lx36ad⟩ := lts0 x36a.lt
      go_wp2_with fail
      refine wp_region_lin (B := w.heap.size) (fr := fun xf => ⟨List.toArray (.agg #[.bool b, .slice A n c, .slice D m e] :: .agg #[.bool b', .slice A' n' c', .slice D' m' e'] :: .agg #[.bool b2, .slice A2 n2 c2, .slice D2 m2 e2] :: .pointer (some ⟨w.heap.size, 0, none⟩) :: .pointer (some ⟨w.heap.size + 1, 0, none⟩) :: .pointer (some ⟨w.heap.size + 1 + 1, 0, none⟩) :: xf 10 :: .bool true :: .bool true :: .bool true :: .pointer (some ⟨w35.heap.size, 0, none⟩) :: .nilIface :: .agg #[.bool b, .slice A n c, .slice D m e] :: .agg #[.bool b', .slice A' n' c', .slice D' m' e'] :: .agg #[.bool b2, .slice A2 n2 c2, .slice D2 m2 e2] :: .slice (some ⟨w.heap.size + 1 + 1 + 1, 0, none⟩) 3 3 :: .bool true :: .bool false :: .bool false :: .bool true :: .bool false :: .bool false :: undef :: y3 0 :: y3 1 :: y3 2 :: y3 3 :: y3 4 :: y3 5 :: y3 6 :: y3 7 :: y3 8 :: y3 9 :: y3 10 :: y3 11 :: y3 12 :: y3 13 :: y3 14 :: y3 15 :: y3 16 :: y3 17 :: y3 18 :: y3 19 :: y13 0 :: y13 1 :: y13 2 :: y13 3 :: y13 4 :: y13 5 :: y13 6 :: y13 7 :: y13 8 :: y13 9 :: y13 10 :: y13 11 :: y13 12 :: y13 13 :: y13 14 :: y13 15 :: y13 16 :: y13 17 :: y13 18 :: y13 19 :: .agg #[.bool b, .slice A n c, .slice D m e] :: .agg #[.bool b', .slice A' n' c', .slice D' m' e'] :: .agg #[.bool b2, .slice A2 n2 c2, .slice D2 m2 e2] :: .agg #[.bool b23, .slice A23 n23 c23, .slice A'23 n'23 c'23] :: .agg #[.bool b24, .slice A24 n24 c24, .slice A'24 n'24 c'24] :: .agg #[.bool b, .slice A n c, .slice D m e] :: .agg #[.bool b', .slice A' n' c', .slice D' m' e'] :: .agg #[.bool b25, .slice A25 n25 c25, .slice A'25 n'25 c'25] :: .agg #[.bool b, .slice A n c, .slice D m e] :: .agg #[.bool b2, .slice A2 n2 c2, .slice D2 m2 e2] :: .agg #[.bool b26, .slice A26 n26 c26, .slice A'26 n'26 c'26] :: .agg #[.bool b27, .slice A27 n27 c27, .slice A'27 n'27 c'27] :: .bool true :: .bool true :: .bool false :: .bool false :: .bool true :: .bool false :: .bool false :: .bool false :: .bool true :: .bool false :: .bool false :: .bool false :: .agg #[.bool b, .slice A n c, .slice D m e] :: .agg #[.bool b', .slice A' n' c', .slice D' m' e'] :: .agg #[.bool b29, .slice A29 n29 c29, .slice A'29 n'29 c'29] :: .bool true :: .bool false :: .bool false :: .bool false :: .agg #[.bool b, .slice A n c, .slice D m e] :: .agg #[.bool b', .slice A' n' c', .slice D' m' e'] :: .agg #[.bool b31, .slice A31 n31 c31, .slice A'31 n'31 c'31] :: .bool true :: .bool false :: .bool false :: .bool false :: .agg #[.bool b, .slice A n c, .slice D m e] :: .agg #[.bool b, .slice A n c, .slice D m e] :: .agg #[.bool b33, .slice A33 n33 c33, .slice A'33 n'33 c'33] :: .int .i64 0 :: .bool false :: .bool false :: .tuple #[.agg #[.bool b35, .slice A35 n35 c35, .slice A'35 n'35 c'35], .nilIface] :: .agg #[.bool b, .slice A n c, .slice D m e] :: .agg #[.bool b', .slice A' n' c', .slice D' m' e'] :: .tuple #[.agg #[.bool b35, .slice A35 n35 c35, .slice A'35 n'35 c'35], .nilIface] :: .agg #[.bool b35, .slice A35 n35 c35, .slice A'35 n'35 c'35] :: .nilIface :: .agg #[.bool b', .slice A' n' c', .slice D' m' e'] :: .int .i64 s :: _ :: undef :: undef :: xf 0 :: xf 1 :: xf 2 :: xf 3 :: xf 4 :: xf 5 :: xf 6 :: xf 7 :: xf 8 :: xf 9 :: []), []⟩) (R := fun ri => List.getD ((PEq (.nilIface)) :: (PEq (.bool true)) :: (PEq (.bool true)) :: (PEq (.agg #[.bool b35, .slice A35 n35 c35, .slice A'35 n'35 c'35])) :: (PEq (.agg #[.bool b', .slice A' n' c', .slice D' m' e'])) :: (VQ (((q) / (q')) * (q')) (((12) + (12)) + (12))) :: (PEq (.agg #[.bool b, .slice A n c, .slice D m e])) :: (PEq (.int .i64 0)) :: (PEq (.bool true)) :: (PEq (.bool true)) :: (PEq (.bool true)) :: []) ri (fun _ _ => True)) (es := []) (ow := [⟨w.heap.size, 11, 0, 24, #[.bool b, .slice A n c, .slice D m e], CAny⟩, ⟨w.heap.size + 1, 11, 0, 24, #[.bool b', .slice A' n' c', .slice D' m' e'], CAny⟩, ⟨w.heap.size + 1 + 1, 11, 0, 24, #[.bool b2, .slice A2 n2 c2, .slice D2 m2 e2], CAny⟩, ⟨w.heap.size + 1 + 1 + 1, 11, 0, 24, #[.bool b, .slice A n c, .slice D m e, .bool b', .slice A' n' c', .slice D' m' e', .bool b2, .slice A2 n2 c2, .slice D2 m2 e2], CAny⟩, ⟨w35.heap.size, 11, 0, 24, #[.bool b35, .slice A35 n35 c35, .slice A'35 n'35 c'35], CAny⟩]) (x0 := (upd (fun _ => undef) 10 (.bool false))) (by kernel_rfl)
        (each_of ⟨fun _ _ => rfl, fun _ _ => rfl, fun _ _ => rfl, fun _ _ => rfl, fun _ _ => rfl, fun _ _ => rfl, fun _ _ => rfl, fun _ _ => rfl, fun _ _ => rfl, fun _ _ => rfl, fun _ _ => rfl, trivial⟩) (each_of (acyc_from _ 0 (by kernel_rfl))) (AllStab.get _ ⟨stEq _, stEq _, stEq _, stEq _, stEq _, stQ _ _, stEq _, stEq _, stEq _, stEq _, stEq _, trivial⟩)
        (fun _ h => nomatch h) (List.forall_mem_cons.2 ⟨scAny, List.forall_mem_cons.2 ⟨scAny, List.forall_mem_cons.2 ⟨scAny, List.forall_mem_cons.2 ⟨scAny, List.forall_mem_cons.2 ⟨scAny, fun _ h => nomatch h⟩⟩⟩⟩⟩) (fun _ h => nomatch h) bw36.size
        (List.forall_mem_cons.2 ⟨⟨z13_0, by show w.heap.size ≤ w.heap.size; omega⟩, List.forall_mem_cons.2 ⟨⟨z13_1, by show w.heap.size ≤ w.heap.size + 1; omega⟩, List.forall_mem_cons.2 ⟨⟨z13_2, by show w.heap.size ≤ w.heap.size + 1 + 1; omega⟩, List.forall_mem_cons.2 ⟨⟨z13_3, by show w.heap.size ≤ w.heap.size + 1 + 1 + 1; omega⟩, List.forall_mem_cons.2 ⟨⟨x36a, by show w.heap.size ≤ w35.heap.size; omega⟩, fun _ h => nomatch h⟩⟩⟩⟩⟩) (ownDist (by simp <;> omega))
        (each_of ⟨?_, ?_, ?_, ?_, ?_, ?_, ?_, ?_, ?_, ?_, ?_, trivial⟩) ?_
      · exact .inl ⟨by simp, by simp, fun xf wq hk hbl hd K hK => by
          (try dsimp only)
          go_simp
          exact hK.out (.nilIface) _ rfl (brefl _)⟩
      · exact .inl ⟨by simp, by simp, fun xf wq hk hbl hd K hK => by
          have dq0 : xf 0 = .nilIface := hd ⟨0, .data⟩ (by simp) rfl
          (try dsimp only); (try simp only [dq0])
          go_simp
          have hz := hK.out (.bool true) _ rfl (brefl _)
          simp only [dq0] at hz
          exact hz⟩
      · exact .inl ⟨by simp, by simp, fun xf wq hk hbl hd K hK => by
          have dq1 : xf 1 = .bool true := hd ⟨1, .data⟩ (by simp) rfl
          (try dsimp only); (try simp only [dq1])
          go_simp
          have hz := hK.out (.bool true) _ rfl (brefl _)
          simp only [dq1] at hz
          exact hz⟩
      · exact .inl ⟨by simp, by simp, fun xf wq hk hbl hd K hK => by
          have dq2 : xf 2 = .bool true := hd ⟨2, .guard⟩ (by simp) rfl
          have y : Blk wq w35.heap.size 24 #[.bool b35, .slice A35 n35 c35, .slice A'35 n'35 c'35] := hbl _ (List.Mem.tail _ (List.Mem.tail _ (List.Mem.tail _ (List.Mem.tail _ (List.Mem.head _))))) (by simp [Region.binds])
          obtain ⟨hcl0, hcl1, hcl2⟩ := y.c3
          (try dsimp only); (try simp only [dq2])
          go_simp
          have hz := hK.out (.agg #[.bool b35, .slice A35 n35 c35, .slice A'35 n'35 c'35]) _ rfl (brefl _)
          simp only [dq2] at hz
          exact hz⟩
      · exact .inl ⟨by simp, by simp, fun xf wq hk hbl hd K hK => by
          have dq2 : xf 2 = .bool true := hd ⟨2, .guard⟩ (by simp) rfl
          have y : Blk wq (w.heap.size + 1) 24 #[.bool b', .slice A' n' c', .slice D' m' e'] := hbl _ (List.Mem.tail _ (List.Mem.head _)) (by simp [Region.binds])
          obtain ⟨hcl0, hcl1, hcl2⟩ := y.c3
          (try dsimp only); (try simp only [dq2])
          go_simp
          have hz := hK.out (.agg #[.bool b', .slice A' n' c', .slice D' m' e']) _ rfl (brefl _)
          simp only [dq2] at hz
          exact hz⟩
      · exact .inl ⟨by simp, by simp, fun xf wq hk hbl hd K hK => by
          have dq3 : xf 3 = .agg #[.bool b35, .slice A35 n35 c35, .slice A'35 n'35 c'35] := hd ⟨3, .data⟩ (by simp) rfl
          have dq4 : xf 4 = .agg #[.bool b', .slice A' n' c', .slice D' m' e'] := hd ⟨4, .data⟩ (by simp) rfl
          have dq2 : xf 2 = .bool true := hd ⟨2, .guard⟩ (by simp) rfl
          (try dsimp only); (try simp only [dq3, dq4, dq2])
          go_simp
          go_at_call 43
          (with_reducible refine (f_mul _ b35 A35 n35 c35 A'35 n'35 c'35 ((q) / (q')) ((12) + (12)) ?_ b' A' n' c' D' m' e' (q') (12) ?_ ?_ ?_ ?_ ?_).mono ?_); (exact (h35.keep hk).qz); (exact (H'.keep hk)); (first | omega | decide | assumption); (first | omega | decide | assumption); (first | omega | decide | assumption); (first | omega | decide | assumption); rintro e wr ⟨b38, A38, n38, c38, A'38, n'38, c'38, rfl, h38, hbr⟩
          have hz := hK.out _ _ ⟨b38, A38, n38, c38, A'38, n'38, c'38, rfl, h38⟩ hbr
          simp only [dq3, dq4, dq2] at hz
          exact hz⟩
      · exact .inl ⟨by simp, by simp, fun xf wq hk hbl hd K hK => by
          have dq2 : xf 2 = .bool true := hd ⟨2, .guard⟩ (by simp) rfl
          have y : Blk wq w.heap.size 24 #[.bool b, .slice A n c, .slice D m e] := hbl _ (List.Mem.head _) (by simp [Region.binds])
          obtain ⟨hcl0, hcl1, hcl2⟩ := y.c3
          (try dsimp only); (try simp only [dq2])
          go_simp
          have hz := hK.out (.agg #[.bool b, .slice A n c, .slice D m e]) _ rfl (brefl _)
          simp only [dq2] at hz
          exact hz⟩
      · exact .inl ⟨by simp, by simp, fun xf wq hk hbl hd K hK => by
          obtain ⟨b38, A38, n38, c38, A'38, n'38, c'38, dq5, h38⟩ : VQ (((q) / (q')) * (q')) (((12) + (12)) + (12)) (xf 5) wq := hd ⟨5, .data⟩ (by simp) rfl
          have dq6 : xf 6 = .agg #[.bool b, .slice A n c, .slice D m e] := hd ⟨6, .data⟩ (by simp) rfl
          have dq2 : xf 2 = .bool true := hd ⟨2, .guard⟩ (by simp) rfl
          (try dsimp only); (try simp only [dq5, dq6, dq2])
          go_simp
          go_at_call 41
          (with_reducible refine (f_cmp_v _ b38 A38 n38 c38 A'38 n'38 c'38 (((q) / (q')) * (q')) (((12) + (12)) + (12)) ?_ b A n c D m e (q) (12) ?_ 0 (rcmp_zero.2 (Rat.div_mul_cancel HD.out)) ?_ ?_ ?_ ?_).mono ?_); (exact h38.qz); (exact (H.keep hk)); (first | omega | decide | assumption); (first | omega | decide | assumption); (first | omega | decide | assumption); (first | omega | decide | assumption); rintro e wr ⟨rfl, hbr⟩
          have hz := hK.out (.int .i64 0) _ rfl hbr
          simp only [dq5, dq6, dq2] at hz
          exact hz⟩
      · exact .inl ⟨by simp, by simp, fun xf wq hk hbl hd K hK => by
          have dq7 : xf 7 = .int .i64 0 := hd ⟨7, .data⟩ (by simp) rfl
          have dq2 : xf 2 = .bool true := hd ⟨2, .guard⟩ (by simp) rfl
          (try dsimp only); (try simp only [dq7, dq2])
          go_simp
          have hz := hK.out (.bool true) _ rfl (brefl _)
          simp only [dq7, dq2] at hz
          exact hz⟩
      · exact .inl ⟨by simp, by simp, fun xf wq hk hbl hd K hK => by
          have dq2 : xf 2 = .bool true := hd ⟨2, .data⟩ (by simp) rfl
          have dq8 : xf 8 = .bool true := hd ⟨8, .data⟩ (by simp) rfl
          (try dsimp only); (try simp only [dq2, dq8])
          go_simp
          have hz := hK.out (.bool true) _ rfl (brefl _)
          simp only [dq2, dq8] at hz
          exact hz⟩
      · exact .inl ⟨by simp, by simp, fun xf wq hk hbl hd K hK => by
          have dq9 : xf 9 = .bool true := hd ⟨9, .data⟩ (by simp) rfl
          (try dsimp only); (try simp only [dq9])
          go_simp
          have hz := hK.out (.bool true) _ rfl (brefl _)
          simp only [dq9] at hz
          exact hz⟩
      clear cz13_0_0 cz13_0_1 cz13_0_2 lz13_0_0 lz13_0_1 lz13_0_2 lz13_0_3 cz13_1_0 cz13_1_1 cz13_1_2 lz13_1_0 lz13_1_1 lz13_1_2 lz13_1_3 cx36aa cx36ab cx36ac lx36aa lx36ab lx36ac lx36ad
      intro y37 w37 kq37 hbl37 lw37 how hrr hfl hds
      replace H := H.keep kq37
      replace H' := H'.keep kq37
      replace H2 := H2.keep kq37
      replace h23 := h23.keep kq37
      replace h24 := h24.keep kq37
      replace h25 := h25.keep kq37
      replace h26 := h26.keep kq37
      replace h27 := h27.keep kq37
      replace h29 := h29.keep kq37
      replace h31 := h31.keep kq37
      replace h33 := h33.keep kq37
      replace h35 := h35.keep kq37
      obtain ⟨_, z37_0, ez, _⟩ := how _ (List.Mem.head _)
      obtain rfl := ez (by simp)
      dsimp only at z37_0
      obtain ⟨_, z37_1, ez, _⟩ := how _ (List.Mem.tail _ (List.Mem.head _))
      obtain rfl := ez (by simp)
      dsimp only at z37_1
      obtain ⟨_, z37_2, ez, _⟩ := how _ (List.Mem.tail _ (List.Mem.tail _ (List.Mem.head _)))
      obtain rfl := ez (by simp)
      dsimp only at z37_2
      obtain ⟨_, z37_3, ez, _⟩ := how _ (List.Mem.tail _ (List.Mem.tail _ (List.Mem.tail _ (List.Mem.head _))))
      obtain rfl := ez (by simp)
      dsimp only at z37_3
      obtain ⟨_, z37_4, ez, _⟩ := how _ (List.Mem.tail _ (List.Mem.tail _ (List.Mem.tail _ (List.Mem.tail _ (List.Mem.head _)))))
      obtain rfl := ez (by simp)
      dsimp only at z37_4
      have ea10 : y37 10 = .bool true := hrr 10 (by simp)
      (try dsimp only)
      simp only [ea10]
      clear hrr hfl how hds ea10
      clear z13_0 z13_1 z13_2 z13_3 x36a
      have bw37 := bw36.trans hbl37
      clear bw36
      go_wp2_with fail
      go_ret
      exact retB rfl bw37
end Go.Proofs.YtkpjhmpjihchpaaGreatDoor

/- FractionField: the laws of sums, products and quotients of fractions; for every input the law returns true. The listed library variables are tied to the program text. -/
namespace Go.Proofs.YtkpjhmpjihchpaaGreatDoor
open Go Go.RowKit Bn Go.ChangeShapes Go.WideShapes Go.ChangeAt
theorem field_contract (H : Type) (enc : TypeId × Value → H) (W : World) (base : Nat) (args : Array Value) (ds gs : List (DataW H)) (before : List MemPlace)
    (hval0 : ∀ (j : Nat) t v, Tryz.f9.params[j]? = some t → args[j]? = some v → Value.okWide Tryz.prog W .any base t v)
    (hW : DataW.Whole enc Tryz.prog Tryz.f9.params.toList Rows.fractionFieldSpec.vars false W args.toList ds gs before) (hL : laidMetH Tryz.prog Rows.fractionFieldRow.laid W) (hsh : W.ShapedOpen Tryz.prog) :
    Calls Tryz.prog 9 args W fun e W' => ∃ v, e = .returned v ∧ Rows.fractionFieldSpec.post enc Tryz.prog Tryz.f9 false true false false W args v W' := by
  have hval : ∀ (j : Nat) t v, Tryz.f9.params[j]? = some t → args[j]? = some v → Value.okWide Tryz.prog W .any base t v := hval0
  have htab : Tab W := tab_of_laid hL
  have hmx : Mx W := mx_of_shaped hsh
  have hW' := hW
  obtain ⟨p, q, hA0, hV, rfl, hfz, hnd⟩ := hW
  have hA : DataW.TrodAll enc Tryz.prog W 0 (fun _ => true) true Tryz.f9.params.toList args.toList ds p := hA0
  rw [Tryz.params9] at hA hval
  obtain ⟨v0, v1, v2, d0, d1, d2, p0, p1, p2, rfl, rfl, rfl, h0, h1, h2⟩ := trodAll_three hA
  obtain ⟨rfl, rfl⟩ := trodVars_none hV
  obtain ⟨b, A, n, c, D, m, e, r, k, rfl, H⟩ := frac_open (hval 0 _ v0 rfl rfl) h0
  obtain ⟨b', A', n', c', D', m', e', r', k', rfl, H'⟩ := frac_open (hval 1 _ v1 rfl rfl) h1
  obtain ⟨b2, A2, n2, c2, D2, m2, e2, r2, k2, rfl, H2⟩ := frac_open (hval 2 _ v2 rfl rfl) h2
  refine (l_FractionField W b A n c D m e r.q k ⟨r, H, rfl⟩ b' A' n' c' D' m' e' r'.q k' ⟨r', H', rfl⟩ b2 A2 n2 c2 D2 m2 e2 r2.q k2 ⟨r2, H2, rfl⟩ htab hmx).mono fun e W' ⟨he, hb⟩ => ?_
  subst he
  exact ⟨_, rfl, law_post laid_out Tryz.underlying4 hW' rfl rfl (by kernel_rfl) rfl rfl rfl hb⟩
theorem field_lifted (os : Os) (started : os.Started) (H : Type) (enc : TypeId × Value → H) (F : Stop.Interp) :
    ReturnsInHanded {} Tryz.checked os 9 .any ((OpenSpec.ofChange Rows.fractionFieldSpec).preRow enc Tryz.prog Tryz.f9 Rows.fractionFieldRow.domain false Rows.fractionFieldRow.laid) (((OpenSpec.ofChange Rows.fractionFieldSpec).at F).post enc Tryz.prog Tryz.f9 false true false false) := by
  have hx : DataW.whole enc Tryz.prog ((laidWorld os).forCall (fun _ _ => 0) ⟨#[], #[.agg #[.bool false, .slice none 0 0, .slice none 0 0], .agg #[.bool false, .slice none 0 0, .slice none 0 0], .agg #[.bool false, .slice none 0 0, .slice none 0 0]], []⟩).memory Tryz.f9.params.toList Rows.fractionFieldSpec.vars false (#[.agg #[.bool false, .slice none 0 0, .slice none 0 0], .agg #[.bool false, .slice none 0 0, .slice none 0 0], .agg #[.bool false, .slice none 0 0, .slice none 0 0]] : Array Value).toList 8 = some ([.agg [.lit (.bool false), .nil, .nil], .agg [.lit (.bool false), .nil, .nil], .agg [.lit (.bool false), .nil, .nil]], [], []) := by kernel_rfl
  have hl : laidMet Tryz.prog Rows.fractionFieldRow.laid ((laidWorld os).forCall (fun _ _ => 0) ⟨#[], #[.agg #[.bool false, .slice none 0 0, .slice none 0 0], .agg #[.bool false, .slice none 0 0, .slice none 0 0], .agg #[.bool false, .slice none 0 0, .slice none 0 0]], []⟩).memory := laidMet_of_run' 8 (by kernel_rfl) (by kernel_rfl)
  refine returnsInHanded_of_row (C := Tryz.checked) (s := OpenSpec.ofChange Rows.fractionFieldSpec) own_knob started (by kernel_rfl) Tryz.func9
    (witness_row_at (enc := enc) (C := Tryz.checked) false (laidWorld os) #[.agg #[.bool false, .slice none 0 0, .slice none 0 0], .agg #[.bool false, .slice none 0 0, .slice none 0 0], .agg #[.bool false, .slice none 0 0, .slice none 0 0]] rfl (by kernel_rfl) (by kernel_rfl) (by kernel_rfl)
      (OpenSpec.preRow_of_cond 8 hx (by kernel_rfl) (fun k hk => by cases hk) (by kernel_rfl) hl)) ?_
  intro W base args ds gs before hval hW _ _ _ hL hsh _
  exact field_contract H enc W base args ds gs before hval hW hL hsh
theorem field_j2 : (Rows.fractionFieldRow.inPlace == Tryz.pinned.checked.prog.inPlace 9) = true := by kernel_rfl
theorem field_j3 : (Rows.fractionFieldRow.unfollowed == Tryz.pinned.checked.prog.unfollowed 9) = true := by kernel_rfl
theorem field_j4 : (Rows.fractionFieldRow.recurses == Tryz.pinned.checked.prog.recurses 9) = true := by kernel_rfl
theorem field_j5 : (Rows.fractionFieldRow.named == Tryz.pinned.checked.prog.varsNamed 9) = true := by kernel_rfl
theorem field_joined : joinedFacts Tryz.pinned.checked.prog 9 Tryz.f9 (OpenSpec.ofChange Rows.fractionFieldSpec).bare Rows.fractionFieldRow = true := joined_parts (by kernel_rfl) field_j2 field_j3 field_j4 field_j5 (by kernel_rfl)
theorem field_inst : Tryz.f9.isInstance Tryz.pinned.checked.prog Rows.fractionFieldRow.origin Rows.fractionFieldRow.targs := of_decide_eq_true (by kernel_rfl)
theorem field_said : Rows.FractionFieldSaid :=
  OpenClaim.holds_of_cond 9 Tryz.f9 rfl rfl rfl rfl rfl rfl rfl ⟨rfl, rfl, rfl, rfl, rfl⟩ rfl rfl rfl rfl rfl (by kernel_rfl) Tryz.func9 field_joined
    field_inst (by unfold Func.isWrapper; first | (rw [if_pos (by decide +kernel)]; kernel_rfl) | (rw [if_neg (by decide +kernel)]; exact ⟨rfl, rfl⟩))
    (fun os started H enc _ F => by rw [OpenClaim.pre_eq_preRow]; exact field_lifted os started H enc F)
theorem field_plain (f : FuncId) (fn : Func) (hf : Tryz.pinned.checked.prog.funcNamed "linkwork/linkworklaw02.FractionField" = some f) (hfn : Tryz.pinned.checked.prog.funcs[f]? = some fn) :
    true = Tryz.pinned.checked.prog.looks [] ∧ ∀ (j : Nat) t, fn.params[j]? = some t → Tryz.pinned.checked.prog.wantsStandIn t = false := by
  obtain rfl : f = 9 := Option.some.inj ((show Tryz.prog.funcNamed "linkwork/linkworklaw02.FractionField" = some 9 by kernel_rfl).symm.trans hf) |>.symm
  obtain rfl : fn = Tryz.f9 := (Option.some.inj (Tryz.func9.symm.trans hfn)).symm
  refine ⟨by kernel_rfl, fun j t ht => ?_⟩
  rw [Tryz.params9] at ht
  have hm : t ∈ [24] := by
    have := Array.mem_of_getElem? ht
    simp at this ⊢
    first
      | exact this
      | exact .inl this
  have hall : ([24].all fun u => !Tryz.prog.wantsStandIn u) = true := by kernel_rfl
  exact (show Tryz.prog.wantsStandIn t = false by simpa using List.all_eq_true.1 hall t hm)
theorem field_holds : Rows.FractionFieldCardSaid :=
  Claim7.holds_tied_plain_at .later [] _ _ _ _ field_said (fun _ h => by cases h) (by kernel_rfl) (fun _ h => by cases h) fractionField_row_tie rfl ⟨rfl, rfl⟩ (by kernel_rfl) rfl field_plain (by kernel_rfl)
end Go.Proofs.YtkpjhmpjihchpaaGreatDoor
