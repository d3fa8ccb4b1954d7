/- FractionValid: validity, and fractions of integers, are those of the reference; for every input the law returns true. The listed library variables are tied to the program text. -/
import Derived.Deep.RegionHeld3
import Derived.Deep.DrawnRows
import Derived.Test.YtkpjhmpjihchpaaGreatDoorCards
import Derived.Test.YtkpjhmpjihchpaaGreatDoorTie
import Derived.ProofKit
import Derived.WalkKit
import Derived.OpenShut
import Derived.Deep.DeepHandedRow
import Derived.Lib.LaidTab
import Derived.Shelf.Vars
import Derived.ChangeMaps5
import Derived.Test.YtkpjhmpjihchpaaGreatDoorVL1
set_option linter.unusedVariables false
set_option maxHeartbeats 8000000
set_option maxRecDepth 100000
/- Walks: FractionValid. -/
namespace Go.Proofs.YtkpjhmpjihchpaaGreatDoor
open Go Go.RowKit Bn
attribute [local go_sem ↓] Go.wp_at_zero Go.wp_at_succ
theorem IZ.short12 {w : World} {b : Bool} {A : Option Addr} {n c k : Nat} {z : Int} (h : IZ w b A n c z k) (hs : n ≤ 12) : IZ w b A n c z 12 := by
  obtain ⟨l, h1, h2, _⟩ := h
  exact ⟨l, h1, h2, hs⟩
theorem l_FractionValid (w : World) (b : Bool) (A : Option Addr) (n c : Nat) (D : Option Addr) (m e : Nat) (r : RD) (k : Nat) (HD : QD w b A n c D m e r k) (i j : Int) (hi : -9223372036854775808 ≤ i ∧ i < 9223372036854775808) (hj : -9223372036854775808 ≤ j ∧ j < 9223372036854775808) (b' : Bool) (A' : Option Addr) (n' c' : Nat) (z' : Int) (k' : Nat) (H' : IZ w b' A' n' c' z' k') (b2 : Bool) (A2 : Option Addr) (n2 c2 : Nat) (z2 : Int) (k2 : Nat) (H2 : IZ w b2 A2 n2 c2 z2 k2) (htab : Tab w) (hmx : Mx w) :
    Calls Tryz.prog 4 #[.agg #[.bool b, .slice A n c, .slice D m e], .agg #[.int .i64 i, .int .i64 j], .agg #[.bool b', .slice A' n' c', .bool b2, .slice A2 n2 c2]] w (RetV w (.bool true)) := by
  obtain ⟨q, hq⟩ : ∃ q, r.q = q := ⟨_, rfl⟩
  have H : QZ w b A n c D m e q k := ⟨r, HD, hq⟩
  clear hq
  go_enter Tryz.func4, Tryz.ntmps4
  go_wp2_with fail
  (with_reducible refine (l2_short _ (w.heap.size + 1 + 1 + 1) 1 (fun i : Nat => n) (fun i : Nat => m) ?_ ?_).mono ?_); (exact rsq1 (blkAt _ _ _ (by simp))); (decide); rintro e w1 ⟨r1, rfl, hr1, hb1⟩
  have q1 := (((((Below.refl _ _).alloc (Nat.le_refl _) _).alloc (by simp) _).alloc (by simp <;> omega) _).alloc (by simp <;> omega) _).trans (hb1.mono (by simp <;> omega))
  replace H := H.belw q1
  replace HD := HD.belw q1
  replace H' := H'.belw q1
  replace H2 := H2.belw q1
  have x1a : Blk w1 w.heap.size 24 #[.bool b, .slice A n c, .slice D m e] := ((((blkAt _ _ _ (by simp)).alloc _).alloc _).alloc _).below hb1 (by simp <;> omega)
  have x1b := (((blkAt _ _ _ (g := w.heap.size + 1) (by simp)).alloc _).alloc _).below hb1 (by simp <;> omega)
  have x1c := ((blkAt _ _ _ (g := w.heap.size + 1 + 1) (by simp)).alloc _).below hb1 (by simp <;> omega)
  have x1d := (blkAt _ _ _ (g := w.heap.size + 1 + 1 + 1) (by simp)).below hb1 (by simp)
  have bw1 := (brefl w).trans (q1.mono (brefl w).size)
  have lw1 : w.heap.size + 4 ≤ w1.heap.size := by have := hb1.size; simp at this; omega
  clear q1
  obtain ⟨cx1ca, cx1cb, cx1cc, cx1cd⟩ := x1c.c4
  obtain ⟨lx1ca, lx1cb, lx1cc, lx1cd⟩ := lts2 x1c.lt
  cases r1
  · clear hr1
    go_wp2_with fail
    (with_reducible refine (l2_awake _  ?_ ?_).mono ?_); (exact htab.belw bw1); (exact hmx.belw bw1); rintro e w2 ⟨rfl, q2⟩
    clear cx1ca cx1cb cx1cc cx1cd lx1ca lx1cb lx1cc lx1cd
    replace H := H.belw q2
    replace HD := HD.belw q2
    replace H' := H'.belw q2
    replace H2 := H2.belw q2
    replace x1a := x1a.b q2
    replace x1b := x1b.b q2
    replace x1c := x1c.b q2
    replace x1d := x1d.b q2
    have bw2 := bw1.trans (q2.mono bw1.size)
    have lw2 := q2.size
    clear q2 bw1
    go_wp2_with fail
    go_ret
    exact retB rfl bw2
  · replace H := QZ.short2 H (hr1 rfl 0 (by decide))
    replace HD := QD.short2 HD (hr1 rfl 0 (by decide))
    clear hr1
    rcases (show (n' ≤ 12 ∧ n2 ≤ 12) ∨ 12 < n' ∨ (n' ≤ 12 ∧ 12 < n2) by omega) with ⟨hc, hd⟩ | hc | ⟨hc, hd⟩
    · have hc1 : ((12 : Int) < (n' : Int)) = False := by simp; omega
      have hd1 : ((12 : Int) < (n2 : Int)) = False := by simp; omega
      replace H' := H'.short12 hc
      replace H2 := H2.short12 hd
      go_wp2_with fail
      (with_reducible refine (l2_awake _  ?_ ?_).mono ?_); (exact htab.belw bw1); (exact hmx.belw bw1); rintro e w2 ⟨rfl, q2⟩
      clear cx1ca cx1cb cx1cc cx1cd lx1ca lx1cb lx1cc lx1cd
      replace H := H.belw q2
      replace HD := HD.belw q2
      replace H' := H'.belw q2
      replace H2 := H2.belw q2
      replace x1a := x1a.b q2
      replace x1b := x1b.b q2
      replace x1c := x1c.b q2
      replace x1d := x1d.b q2
      have bw2 := bw1.trans (q2.mono bw1.size)
      have lw2 := q2.size
      clear q2 bw1
      obtain ⟨cx1ba, cx1bb⟩ := x1b.c2
      obtain ⟨lx1ba, lx1bb, lx1bc, lx1bd⟩ := lts1 x1b.lt
      go_wp2_with fail
      obtain ⟨x1, hx1⟩ : ∃ x1, (if j = 0 then 8 else 0 : Int) = x1 := ⟨_, rfl⟩
      obtain ⟨v1, hv1⟩ : ∃ v1, Rat.divInt i j = v1 := ⟨_, rfl⟩
      obtain ⟨x2, hx2⟩ : ∃ x2, (if z2 = 0 then 8 else 0 : Int) = x2 := ⟨_, rfl⟩
      obtain ⟨v2, hv2⟩ : ∃ v2, Rat.divInt z' z2 = v2 := ⟨_, rfl⟩
      obtain ⟨v, hv⟩ : ∃ v, r.ok = v := ⟨_, rfl⟩
      have HX1 := Lib.hid hx1
      have HV1 := Lib.hid hv1
      have HX2 := Lib.hid hx2
      have HV2 := Lib.hid hv2
      have HO := Lib.hid hv
      clear hx1 hv1 hx2 hv2 hv
      (with_reducible refine (f_make_v _ (i) (j) hi.1 hi.2 hj.1 hj.2 x1 HX1.out v1 HV1.out).mono ?_); rintro e w3 ⟨b3, A3, n3, c3, A'3, n'3, c'3, rfl, h3, q3⟩
      clear cx1ba cx1bb lx1ba lx1bb lx1bc lx1bd
      replace H := H.belw q3
      replace HD := HD.belw q3
      replace H' := H'.belw q3
      replace H2 := H2.belw q3
      replace x1a := x1a.b q3
      replace x1b := x1b.b q3
      replace x1c := x1c.b q3
      replace x1d := x1d.b q3
      have bw3 := bw2.trans (q3.mono bw2.size)
      have lw3 := q3.size
      clear q3 bw2
      obtain ⟨cx1ca, cx1cb, cx1cc, cx1cd⟩ := x1c.c4
      obtain ⟨lx1ca, lx1cb, lx1cc, lx1cd⟩ := lts2 x1c.lt
      go_wp2_with fail
      (with_reducible refine (f_from_v _ b' A' n' c' (z') (12) ?_ b2 A2 n2 c2 (z2) (12) ?_ (by decide) x2 HX2.out v2 HV2.out 12 (by decide) (by decide) (by decide)).mono ?_); (exact (H'.belw ((Below.refl _ _).alloc (Nat.le_refl _) _))); (exact (H2.belw ((Below.refl _ _).alloc (Nat.le_refl _) _))); rintro e w4 ⟨b4, A4, n4, c4, A'4, n'4, c'4, rfl, h4, hb4⟩
      clear cx1ca cx1cb cx1cc cx1cd lx1ca lx1cb lx1cc lx1cd
      have q4 := ((Below.refl _ _).alloc (Nat.le_refl _) _).trans (hb4.mono (by simp))
      replace H := H.belw q4
      replace HD := HD.belw q4
      replace H' := H'.belw q4
      replace H2 := H2.belw q4
      replace h3 := h3.belw q4
      replace x1a := x1a.b q4
      replace x1b := x1b.b q4
      replace x1c := x1c.b q4
      replace x1d := x1d.b q4
      have x4a : Blk w4 w3.heap.size 24 #[.bool b3, .slice A3 n3 c3, .slice A'3 n'3 c'3] := (blkAt _ _ _ (by simp)).below hb4 (by simp)
      have bw4 := bw3.trans (q4.mono bw3.size)
      have lw4 : w3.heap.size + 1 ≤ w4.heap.size := by have := hb4.size; simp at this; omega
      clear q4 bw3
      obtain ⟨cx1aa, cx1ab, cx1ac⟩ := x1a.c3
      obtain ⟨lx1aa, lx1ab, lx1ac, lx1ad⟩ := lts0 x1a.lt
      go_wp2_with fail
      (with_reducible refine (f_parts _ b A n c D m e (q) (12) ?_ ?_ ?_).mono ?_); (exact (H.belw ((Below.refl _ _).alloc (Nat.le_refl _) _))); (first | omega | decide | assumption); (first | omega | decide | assumption); rintro e w5 ⟨b5, A5, n5, c5, b'5, A'5, n'5, c'5, rfl, h5, h'5, hb5⟩
      clear cx1aa cx1ab cx1ac lx1aa lx1ab lx1ac lx1ad
      have q5 := ((Below.refl _ _).alloc (Nat.le_refl _) _).trans (hb5.mono (by simp))
      replace H := H.belw q5
      replace HD := HD.belw q5
      replace H' := H'.belw q5
      replace H2 := H2.belw q5
      replace h3 := h3.belw q5
      replace h4 := h4.belw q5
      replace x1a := x1a.b q5
      replace x1b := x1b.b q5
      replace x1c := x1c.b q5
      replace x1d := x1d.b q5
      replace x4a := x4a.b q5
      have x5a : Blk w5 w4.heap.size 24 #[.bool b4, .slice A4 n4 c4, .slice A'4 n'4 c'4] := (blkAt _ _ _ (by simp)).below hb5 (by simp)
      have bw5 := bw4.trans (q5.mono bw4.size)
      have lw5 : w4.heap.size + 1 ≤ w5.heap.size := by have := hb5.size; simp at this; omega
      clear q5 bw4
      obtain ⟨cx1ba, cx1bb⟩ := x1b.c2
      obtain ⟨lx1ba, lx1bb, lx1bc, lx1bd⟩ := lts1 x1b.lt
      go_wp2_with fail
      (with_reducible refine (g_make_v _ (i) (j) hi.1 hi.2 hj.1 hj.2 x1 HX1.out v1 HV1.out).mono ?_); rintro e w6 ⟨b6, A6, n6, c6, A'6, n'6, c'6, rfl, h6, hb6⟩
      clear cx1ba cx1bb lx1ba lx1bb lx1bc lx1bd
      have q6 := (((Below.refl _ _).alloc (Nat.le_refl _) _).alloc (by simp) _).trans (hb6.mono (by simp <;> omega))
      replace H := H.belw q6
      replace HD := HD.belw q6
      replace H' := H'.belw q6
      replace H2 := H2.belw q6
      replace h3 := h3.belw q6
      replace h4 := h4.belw q6
      replace h5 := h5.belw q6
      replace h'5 := h'5.belw q6
      replace x1a := x1a.b q6
      replace x1b := x1b.b q6
      replace x1c := x1c.b q6
      replace x1d := x1d.b q6
      replace x4a := x4a.b q6
      replace x5a := x5a.b q6
      have x6a : Blk w6 w5.heap.size 46 #[.bool b5, .slice A5 n5 c5] := ((blkAt _ _ _ (by simp)).alloc _).below hb6 (by simp <;> omega)
      have x6b := (blkAt _ _ _ (g := w5.heap.size + 1) (by simp)).below hb6 (by simp)
      have bw6 := bw5.trans (q6.mono bw5.size)
      have lw6 : w5.heap.size + 2 ≤ w6.heap.size := by have := hb6.size; simp at this; omega
      clear q6 bw5
      obtain ⟨cx1ca, cx1cb, cx1cc, cx1cd⟩ := x1c.c4
      obtain ⟨lx1ca, lx1cb, lx1cc, lx1cd⟩ := lts2 x1c.lt
      go_wp2_with fail
      (with_reducible refine (g_from_v _ b' A' n' c' (z') (12) ?_ b2 A2 n2 c2 (z2) (12) ?_ (by decide) x2 HX2.out v2 HV2.out 12 (by decide) (by decide) (by decide)).mono ?_); (exact (H'.belw ((Below.refl _ _).alloc (Nat.le_refl _) _))); (exact (H2.belw ((Below.refl _ _).alloc (Nat.le_refl _) _))); rintro e w7 ⟨b7, A7, n7, c7, A'7, n'7, c'7, rfl, h7, hb7⟩
      clear cx1ca cx1cb cx1cc cx1cd lx1ca lx1cb lx1cc lx1cd
      have q7 := ((Below.refl _ _).alloc (Nat.le_refl _) _).trans (hb7.mono (by simp))
      replace H := H.belw q7
      replace HD := HD.belw q7
      replace H' := H'.belw q7
      replace H2 := H2.belw q7
      replace h3 := h3.belw q7
      replace h4 := h4.belw q7
      replace h5 := h5.belw q7
      replace h'5 := h'5.belw q7
      replace h6 := h6.belw q7
      replace x1a := x1a.b q7
      replace x1b := x1b.b q7
      replace x1c := x1c.b q7
      replace x1d := x1d.b q7
      replace x4a := x4a.b q7
      replace x5a := x5a.b q7
      replace x6a := x6a.b q7
      replace x6b := x6b.b q7
      have x7a : Blk w7 w6.heap.size 24 #[.bool b6, .slice A6 n6 c6, .slice A'6 n'6 c'6] := (blkAt _ _ _ (by simp)).below hb7 (by simp)
      have bw7 := bw6.trans (q7.mono bw6.size)
      have lw7 : w6.heap.size + 1 ≤ w7.heap.size := by have := hb7.size; simp at this; omega
      clear q7 bw6
      obtain ⟨cx1aa, cx1ab, cx1ac⟩ := x1a.c3
      obtain ⟨lx1aa, lx1ab, lx1ac, lx1ad⟩ := lts0 x1a.lt
      go_wp2_with fail
      (with_reducible refine (g_parts _ b A n c D m e (q) (12) ?_ ?_ ?_).mono ?_); (exact (H.belw ((Below.refl _ _).alloc (Nat.le_refl _) _))); (first | omega | decide | assumption); (first | omega | decide | assumption); rintro e w8 ⟨b8, A8, n8, c8, b'8, A'8, n'8, c'8, rfl, h8, h'8, hb8⟩
      clear cx1aa cx1ab cx1ac lx1aa lx1ab lx1ac lx1ad
      have q8 := ((Below.refl _ _).alloc (Nat.le_refl _) _).trans (hb8.mono (by simp))
      replace H := H.belw q8
      replace HD := HD.belw q8
      replace H' := H'.belw q8
      replace H2 := H2.belw q8
      replace h3 := h3.belw q8
      replace h4 := h4.belw q8
      replace h5 := h5.belw q8
      replace h'5 := h'5.belw q8
      replace h6 := h6.belw q8
      replace h7 := h7.belw q8
      replace x1a := x1a.b q8
      replace x1b := x1b.b q8
      replace x1c := x1c.b q8
      replace x1d := x1d.b q8
      replace x4a := x4a.b q8
      replace x5a := x5a.b q8
      replace x6a := x6a.b q8
      replace x6b := x6b.b q8
      replace x7a := x7a.b q8
      have x8a : Blk w8 w7.heap.size 24 #[.bool b7, .slice A7 n7 c7, .slice A'7 n'7 c'7] := (blkAt _ _ _ (by simp)).below hb8 (by simp)
      have bw8 := bw7.trans (q8.mono bw7.size)
      have lw8 : w7.heap.size + 1 ≤ w8.heap.size := by have := hb8.size; simp at this; omega
      clear q8 bw7
      go_wp2_with fail
      have p9 := (((Kp.refl w8).alloc (.cells #[.bool b8, .slice A8 n8 c8] 46)).alloc (.cells #[.bool b'8, .slice A'8 n'8 c'8] 46))
      have bw9 := ((bw8.alloc (by first | omega | (simp <;> omega)) (.cells #[.bool b8, .slice A8 n8 c8] 46)).alloc (by first | omega | (simp <;> omega)) (.cells #[.bool b'8, .slice A'8 n'8 c'8] 46))
      have x9a : Blk ((w8.alloc (.cells #[.bool b8, .slice A8 n8 c8] 46)).alloc (.cells #[.bool b'8, .slice A'8 n'8 c'8] 46)) w8.heap.size 46 #[.bool b8, .slice A8 n8 c8] := ((blkAt _ _ _ (by simp)).alloc (.cells #[.bool b'8, .slice A'8 n'8 c'8] 46))
      have x9b : Blk ((w8.alloc (.cells #[.bool b8, .slice A8 n8 c8] 46)).alloc (.cells #[.bool b'8, .slice A'8 n'8 c'8] 46)) (w8.heap.size + 1) 46 #[.bool b'8, .slice A'8 n'8 c'8] := (blkAt _ _ _ (by simp))
      replace x1a := ((x1a.alloc (.cells #[.bool b8, .slice A8 n8 c8] 46)).alloc (.cells #[.bool b'8, .slice A'8 n'8 c'8] 46))
      replace x1b := ((x1b.alloc (.cells #[.bool b8, .slice A8 n8 c8] 46)).alloc (.cells #[.bool b'8, .slice A'8 n'8 c'8] 46))
      replace x1c := ((x1c.alloc (.cells #[.bool b8, .slice A8 n8 c8] 46)).alloc (.cells #[.bool b'8, .slice A'8 n'8 c'8] 46))
      replace x1d := ((x1d.alloc (.cells #[.bool b8, .slice A8 n8 c8] 46)).alloc (.cells #[.bool b'8, .slice A'8 n'8 c'8] 46))
      replace x4a := ((x4a.alloc (.cells #[.bool b8, .slice A8 n8 c8] 46)).alloc (.cells #[.bool b'8, .slice A'8 n'8 c'8] 46))
      replace x5a := ((x5a.alloc (.cells #[.bool b8, .slice A8 n8 c8] 46)).alloc (.cells #[.bool b'8, .slice A'8 n'8 c'8] 46))
      replace x6a := ((x6a.alloc (.cells #[.bool b8, .slice A8 n8 c8] 46)).alloc (.cells #[.bool b'8, .slice A'8 n'8 c'8] 46))
      replace x6b := ((x6b.alloc (.cells #[.bool b8, .slice A8 n8 c8] 46)).alloc (.cells #[.bool b'8, .slice A'8 n'8 c'8] 46))
      replace x7a := ((x7a.alloc (.cells #[.bool b8, .slice A8 n8 c8] 46)).alloc (.cells #[.bool b'8, .slice A'8 n'8 c'8] 46))
      replace x8a := ((x8a.alloc (.cells #[.bool b8, .slice A8 n8 c8] 46)).alloc (.cells #[.bool b'8, .slice A'8 n'8 c'8] 46))
      have lw9 : w8.heap.size + 2 ≤ ((w8.alloc (.cells #[.bool b8, .slice A8 n8 c8] 46)).alloc (.cells #[.bool b'8, .slice A'8 n'8 c'8] 46)).heap.size := by simp
      generalize hE9 : ((w8.alloc (.cells #[.bool b8, .slice A8 n8 c8] 46)).alloc (.cells #[.bool b'8, .slice A'8 n'8 c'8] 46)) = w9 at p9 bw9 lw9 x9a x9b x1a x1b x1c x1d x4a x5a x6a x6b x7a x8a ⊢
      clear hE9
      replace H := H.keep p9
      replace HD := HD.keep p9
      replace H' := H'.keep p9
      replace H2 := H2.keep p9
      replace h3 := h3.keep p9
      replace h4 := h4.keep p9
      replace h5 := h5.keep p9
      replace h'5 := h'5.keep p9
      replace h6 := h6.keep p9
      replace h7 := h7.keep p9
      replace h8 := h8.keep p9
      replace h'8 := h'8.keep p9
      clear bw8
      have cx1aa : w9.cell? ⟨w.heap.size, 0, none⟩ = some (.bool b) := x1a.cell 0
      have cx1ab : w9.cell? ⟨w.heap.size, 1, none⟩ = some (.slice A n c) := x1a.cell 1
      have cx1ac : w9.cell? ⟨w.heap.size, 2, none⟩ = some (.slice D m e) := x1a.cell 2
      obtain ⟨lx1aa, lx1ab, lx1ac, lx1ad⟩ := lts0 x1a.lt
      obtain ⟨cx1ba, cx1bb⟩ := x1b.c2
      obtain ⟨lx1ba, lx1bb, lx1bc, lx1bd⟩ := lts1 x1b.lt
      have cx4aa : w9.cell? ⟨w3.heap.size, 0, none⟩ = some (.bool b3) := x4a.cell 0
      have cx4ab : w9.cell? ⟨w3.heap.size, 1, none⟩ = some (.slice A3 n3 c3) := x4a.cell 1
      have cx4ac : w9.cell? ⟨w3.heap.size, 2, none⟩ = some (.slice A'3 n'3 c'3) := x4a.cell 2
      obtain ⟨lx4aa, lx4ab, lx4ac, lx4ad⟩ := lts0 x4a.lt
      have cx5aa : w9.cell? ⟨w4.heap.size, 0, none⟩ = some (.bool b4) := x5a.cell 0
      have cx5ab : w9.cell? ⟨w4.heap.size, 1, none⟩ = some (.slice A4 n4 c4) := x5a.cell 1
      have cx5ac : w9.cell? ⟨w4.heap.size, 2, none⟩ = some (.slice A'4 n'4 c'4) := x5a.cell 2
      obtain ⟨lx5aa, lx5ab, lx5ac, lx5ad⟩ := lts0 x5a.lt
      obtain ⟨cx6aa, cx6ab⟩ := x6a.c2
      obtain ⟨lx6aa, lx6ab, lx6ac, lx6ad⟩ := lts0 x6a.lt
      obtain ⟨cx6ba, cx6bb⟩ := x6b.c2
      obtain ⟨lx6ba, lx6bb, lx6bc, lx6bd⟩ := lts1 x6b.lt
      have cx7aa : w9.cell? ⟨w6.heap.size, 0, none⟩ = some (.bool b6) := x7a.cell 0
      have cx7ab : w9.cell? ⟨w6.heap.size, 1, none⟩ = some (.slice A6 n6 c6) := x7a.cell 1
      have cx7ac : w9.cell? ⟨w6.heap.size, 2, none⟩ = some (.slice A'6 n'6 c'6) := x7a.cell 2
      obtain ⟨lx7aa, lx7ab, lx7ac, lx7ad⟩ := lts0 x7a.lt
      have cx8aa : w9.cell? ⟨w7.heap.size, 0, none⟩ = some (.bool b7) := x8a.cell 0
      have cx8ab : w9.cell? ⟨w7.heap.size, 1, none⟩ = some (.slice A7 n7 c7) := x8a.cell 1
      have cx8ac : w9.cell? ⟨w7.heap.size, 2, none⟩ = some (.slice A'7 n'7 c'7) := x8a.cell 2
      obtain ⟨lx8aa, lx8ab, lx8ac, lx8ad⟩ := lts0 x8a.lt
      obtain ⟨cx9aa, cx9ab⟩ := x9a.c2
      obtain ⟨lx9aa, lx9ab, lx9ac, lx9ad⟩ := lts0 x9a.lt
      obtain ⟨cx9ba, cx9bb⟩ := x9b.c2
      obtain ⟨lx9ba, lx9bb, lx9bc, lx9bd⟩ := lts1 x9b.lt
      refine wp_region_lin (B := w.heap.size) (fr := fun xf => ⟨List.toArray (.agg #[.bool b, .slice A n c, .slice D m e] :: .agg #[.int .i64 i, .int .i64 j] :: .agg #[.bool b', .slice A' n' c', .bool b2, .slice A2 n2 c2] :: .pointer (some ⟨w.heap.size, 0, none⟩) :: .pointer (some ⟨w.heap.size + 1, 0, none⟩) :: .pointer (some ⟨w.heap.size + 1 + 1, 0, none⟩) :: xf 46 :: .pointer (some ⟨w3.heap.size, 0, none⟩) :: errV x1 :: .pointer (some ⟨w4.heap.size, 0, none⟩) :: errV x2 :: .pointer (some ⟨w5.heap.size, 0, none⟩) :: .pointer (some ⟨w5.heap.size + 1, 0, none⟩) :: .pointer (some ⟨w6.heap.size, 0, none⟩) :: .int .i64 x1 :: .pointer (some ⟨w7.heap.size, 0, none⟩) :: .int .i64 x2 :: .pointer (some ⟨w8.heap.size, 0, none⟩) :: .pointer (some ⟨w8.heap.size + 1, 0, none⟩) :: .agg #[.bool b, .slice A n c, .slice D m e] :: .slice (some ⟨w.heap.size + 1 + 1 + 1, 0, none⟩) 1 1 :: .bool true :: .bool false :: .bool false :: .pointer (some ⟨w.heap.size + 1 + 1, 0, none⟩) :: .pointer (some ⟨w.heap.size + 1 + 1, 1, none⟩) :: .slice A' n' c' :: .int .i64 n' :: .bool false :: .bool false :: .bool false :: .pointer (some ⟨w.heap.size + 1 + 1, 2, none⟩) :: .pointer (some ⟨w.heap.size + 1 + 1, 3, none⟩) :: .slice A2 n2 c2 :: .int .i64 n2 :: .bool false :: .bool false :: .bool false :: .bool true :: .bool false :: .bool false :: undef :: .tuple #[.agg #[.bool b3, .slice A3 n3 c3, .slice A'3 n'3 c'3], errV x1] :: .pointer (some ⟨w.heap.size + 1, 0, none⟩) :: .int .i64 i :: .pointer (some ⟨w.heap.size + 1, 1, none⟩) :: .int .i64 j :: .tuple #[.agg #[.bool b3, .slice A3 n3 c3, .slice A'3 n'3 c'3], errV x1] :: .agg #[.bool b3, .slice A3 n3 c3, .slice A'3 n'3 c'3] :: errV x1 :: .tuple #[.agg #[.bool b4, .slice A4 n4 c4, .slice A'4 n'4 c'4], errV x2] :: .pointer (some ⟨w.heap.size + 1 + 1, 0, none⟩) :: .agg #[.bool b', .slice A' n' c'] :: .pointer (some ⟨w.heap.size + 1 + 1, 2, none⟩) :: .agg #[.bool b2, .slice A2 n2 c2] :: .tuple #[.agg #[.bool b4, .slice A4 n4 c4, .slice A'4 n'4 c'4], errV x2] :: .agg #[.bool b4, .slice A4 n4 c4, .slice A'4 n'4 c'4] :: errV x2 :: .tuple #[.agg #[.bool b5, .slice A5 n5 c5], .agg #[.bool b'5, .slice A'5 n'5 c'5]] :: .agg #[.bool b, .slice A n c, .slice D m e] :: .tuple #[.agg #[.bool b5, .slice A5 n5 c5], .agg #[.bool b'5, .slice A'5 n'5 c'5]] :: .agg #[.bool b5, .slice A5 n5 c5] :: .agg #[.bool b'5, .slice A'5 n'5 c'5] :: .tuple #[.agg #[.bool b6, .slice A6 n6 c6, .slice A'6 n'6 c'6], .int .i64 x1] :: .pointer (some ⟨w.heap.size + 1, 0, none⟩) :: .int .i64 i :: .pointer (some ⟨w.heap.size + 1, 1, none⟩) :: .int .i64 j :: .tuple #[.agg #[.bool b6, .slice A6 n6 c6, .slice A'6 n'6 c'6], .int .i64 x1] :: .agg #[.bool b6, .slice A6 n6 c6, .slice A'6 n'6 c'6] :: .int .i64 x1 :: .tuple #[.agg #[.bool b7, .slice A7 n7 c7, .slice A'7 n'7 c'7], .int .i64 x2] :: .pointer (some ⟨w.heap.size + 1 + 1, 0, none⟩) :: .agg #[.bool b', .slice A' n' c'] :: .pointer (some ⟨w.heap.size + 1 + 1, 2, none⟩) :: .agg #[.bool b2, .slice A2 n2 c2] :: .tuple #[.agg #[.bool b7, .slice A7 n7 c7, .slice A'7 n'7 c'7], .int .i64 x2] :: .agg #[.bool b7, .slice A7 n7 c7, .slice A'7 n'7 c'7] :: .int .i64 x2 :: .tuple #[.agg #[.bool b8, .slice A8 n8 c8], .agg #[.bool b'8, .slice A'8 n'8 c'8]] :: .agg #[.bool b, .slice A n c, .slice D m e] :: .tuple #[.agg #[.bool b8, .slice A8 n8 c8], .agg #[.bool b'8, .slice A'8 n'8 c'8]] :: .agg #[.bool b8, .slice A8 n8 c8] :: .agg #[.bool b'8, .slice A'8 n'8 c'8] :: xf 0 :: xf 1 :: xf 2 :: xf 3 :: xf 4 :: xf 5 :: xf 6 :: xf 7 :: xf 8 :: xf 9 :: xf 10 :: xf 11 :: xf 12 :: xf 13 :: xf 14 :: xf 15 :: xf 16 :: xf 17 :: xf 18 :: xf 19 :: xf 20 :: xf 21 :: xf 22 :: xf 23 :: xf 24 :: xf 25 :: xf 26 :: xf 27 :: xf 28 :: xf 29 :: xf 30 :: xf 31 :: xf 32 :: xf 33 :: xf 34 :: xf 35 :: xf 36 :: xf 37 :: xf 38 :: xf 39 :: xf 40 :: xf 41 :: xf 42 :: xf 43 :: xf 44 :: xf 45 :: []), []⟩) (R := fun ri => List.getD ((PEq (.agg #[.bool b, .slice A n c, .slice D m e])) :: (PEq (.bool v)) :: (PEq (.agg #[.bool b, .slice A n c, .slice D m e])) :: (PEq (.bool v)) :: (PEq (.bool true)) :: (PEq (.bool true)) :: (PEq (.pointer (some ⟨w.heap.size + 1, 0, none⟩))) :: (PEq (.int .i64 i)) :: (VQ (((i : Int) : Rat)) (2)) :: (PEq (.pointer (some ⟨w.heap.size + 1, 0, none⟩))) :: (PEq (.int .i64 i)) :: (VQ (((i : Int) : Rat)) (2)) :: (PEq (.bool true)) :: (PEq (.bool true)) :: (PEq (.bool true)) :: (PEq (errV x1)) :: (PEq (.int .i64 x1)) :: (PEq (.int .i64 x1)) :: (PEq (.bool true)) :: (PEq (.bool true)) :: (PEq (.bool true)) :: (PEq (.agg #[.bool b3, .slice A3 n3 c3, .slice A'3 n'3 c'3])) :: (PEq (.agg #[.bool b6, .slice A6 n6 c6, .slice A'6 n'6 c'6])) :: (PEq (.bool true)) :: (PEq (.bool true)) :: (PEq (.bool true)) :: (PEq (errV x2)) :: (PEq (.int .i64 x2)) :: (PEq (.int .i64 x2)) :: (PEq (.bool true)) :: (PEq (.bool true)) :: (PEq (.bool true)) :: (PEq (.agg #[.bool b4, .slice A4 n4 c4, .slice A'4 n'4 c'4])) :: (PEq (.agg #[.bool b7, .slice A7 n7 c7, .slice A'7 n'7 c'7])) :: (PEq (.bool true)) :: (PEq (.bool true)) :: (PEq (.bool true)) :: (PEq (.agg #[.bool b5, .slice A5 n5 c5])) :: (PEq (.agg #[.bool b8, .slice A8 n8 c8])) :: (PEq (.bool true)) :: (PEq (.bool true)) :: (PEq (.bool true)) :: (PEq (.agg #[.bool b'5, .slice A'5 n'5 c'5])) :: (PEq (.agg #[.bool b'8, .slice A'8 n'8 c'8])) :: (PEq (.bool true)) :: (PEq (.bool true)) :: (PEq (.bool true)) :: []) ri (fun _ _ => True)) (es := []) (ow := [⟨w.heap.size, 47, 0, 24, #[.bool b, .slice A n c, .slice D m e], CAny⟩, ⟨w.heap.size + 1, 47, 0, 44, #[.int .i64 i, .int .i64 j], CAny⟩, ⟨w.heap.size + 1 + 1, 47, 0, 47, #[.bool b', .slice A' n' c', .bool b2, .slice A2 n2 c2], CAny⟩, ⟨w.heap.size + 1 + 1 + 1, 47, 0, 24, #[.bool b, .slice A n c, .slice D m e], CAny⟩, ⟨w3.heap.size, 47, 0, 24, #[.bool b3, .slice A3 n3 c3, .slice A'3 n'3 c'3], CAny⟩, ⟨w4.heap.size, 47, 0, 24, #[.bool b4, .slice A4 n4 c4, .slice A'4 n'4 c'4], CAny⟩, ⟨w5.heap.size, 47, 0, 46, #[.bool b5, .slice A5 n5 c5], CAny⟩, ⟨w5.heap.size + 1, 47, 0, 46, #[.bool b'5, .slice A'5 n'5 c'5], CAny⟩, ⟨w6.heap.size, 47, 0, 24, #[.bool b6, .slice A6 n6 c6, .slice A'6 n'6 c'6], CAny⟩, ⟨w7.heap.size, 47, 0, 24, #[.bool b7, .slice A7 n7 c7, .slice A'7 n'7 c'7], CAny⟩, ⟨w8.heap.size, 47, 0, 46, #[.bool b8, .slice A8 n8 c8], CAny⟩, ⟨w8.heap.size + 1, 47, 0, 46, #[.bool b'8, .slice A'8 n'8 c'8], CAny⟩]) (x0 := (upd (fun _ => undef) 46 (.bool false))) (by kernel_rfl)
        (each_of ⟨fun _ _ => rfl, fun _ _ => rfl, fun _ _ => rfl, fun _ _ => rfl, fun _ _ => rfl, fun _ _ => rfl, fun _ _ => rfl, fun _ _ => rfl, fun _ _ => rfl, fun _ _ => rfl, fun _ _ => rfl, fun _ _ => rfl, fun _ _ => rfl, fun _ _ => rfl, fun _ _ => rfl, fun _ _ => rfl, fun _ _ => rfl, fun _ _ => rfl, fun _ _ => rfl, fun _ _ => rfl, fun _ _ => rfl, fun _ _ => rfl, fun _ _ => rfl, fun _ _ => rfl, fun _ _ => rfl, fun _ _ => rfl, fun _ _ => rfl, fun _ _ => rfl, fun _ _ => rfl, fun _ _ => rfl, fun _ _ => rfl, fun _ _ => rfl, fun _ _ => rfl, fun _ _ => rfl, fun _ _ => rfl, fun _ _ => rfl, fun _ _ => rfl, fun _ _ => rfl, fun _ _ => rfl, fun _ _ => rfl, fun _ _ => rfl, fun _ _ => rfl, fun _ _ => rfl, fun _ _ => rfl, fun _ _ => rfl, fun _ _ => rfl, fun _ _ => rfl, trivial⟩) (each_of (acyc_from _ 0 (by kernel_rfl))) (AllStab.get _ ⟨stEq _, stEq _, stEq _, stEq _, stEq _, stEq _, stEq _, stEq _, stQ _ _, stEq _, stEq _, stQ _ _, stEq _, stEq _, stEq _, stEq _, stEq _, stEq _, stEq _, stEq _, stEq _, stEq _, stEq _, stEq _, stEq _, stEq _, stEq _, stEq _, stEq _, stEq _, stEq _, stEq _, stEq _, stEq _, stEq _, stEq _, stEq _, stEq _, stEq _, stEq _, stEq _, stEq _, stEq _, stEq _, stEq _, stEq _, stEq _, trivial⟩)
        (fun _ h => nomatch h) (List.forall_mem_cons.2 ⟨scAny, List.forall_mem_cons.2 ⟨scAny, List.forall_mem_cons.2 ⟨scAny, List.forall_mem_cons.2 ⟨scAny, List.forall_mem_cons.2 ⟨scAny, List.forall_mem_cons.2 ⟨scAny, List.forall_mem_cons.2 ⟨scAny, List.forall_mem_cons.2 ⟨scAny, List.forall_mem_cons.2 ⟨scAny, List.forall_mem_cons.2 ⟨scAny, List.forall_mem_cons.2 ⟨scAny, List.forall_mem_cons.2 ⟨scAny, fun _ h => nomatch h⟩⟩⟩⟩⟩⟩⟩⟩⟩⟩⟩⟩) (fun _ h => nomatch h) bw9.size
        (List.forall_mem_cons.2 ⟨⟨x1a, by show w.heap.size ≤ w.heap.size; omega⟩, List.forall_mem_cons.2 ⟨⟨x1b, by show w.heap.size ≤ w.heap.size + 1; omega⟩, List.forall_mem_cons.2 ⟨⟨x1c, by show w.heap.size ≤ w.heap.size + 1 + 1; omega⟩, List.forall_mem_cons.2 ⟨⟨x1d, by show w.heap.size ≤ w.heap.size + 1 + 1 + 1; omega⟩, List.forall_mem_cons.2 ⟨⟨x4a, by show w.heap.size ≤ w3.heap.size; omega⟩, List.forall_mem_cons.2 ⟨⟨x5a, by show w.heap.size ≤ w4.heap.size; omega⟩, List.forall_mem_cons.2 ⟨⟨x6a, by show w.heap.size ≤ w5.heap.size; omega⟩, List.forall_mem_cons.2 ⟨⟨x6b, by show w.heap.size ≤ w5.heap.size + 1; omega⟩, List.forall_mem_cons.2 ⟨⟨x7a, by show w.heap.size ≤ w6.heap.size; omega⟩, List.forall_mem_cons.2 ⟨⟨x8a, by show w.heap.size ≤ w7.heap.size; omega⟩, List.forall_mem_cons.2 ⟨⟨x9a, by show w.heap.size ≤ w8.heap.size; omega⟩, List.forall_mem_cons.2 ⟨⟨x9b, by show w.heap.size ≤ w8.heap.size + 1; omega⟩, fun _ h => nomatch h⟩⟩⟩⟩⟩⟩⟩⟩⟩⟩⟩⟩) (ownDist (by simp <;> omega))
        (each_of ⟨?_, ?_, ?_, ?_, ?_, ?_, ?_, ?_, ?_, ?_, ?_, ?_, ?_, ?_, ?_, ?_, ?_, ?_, ?_, ?_, ?_, ?_, ?_, ?_, ?_, ?_, ?_, ?_, ?_, ?_, ?_, ?_, ?_, ?_, ?_, ?_, ?_, ?_, ?_, ?_, ?_, ?_, ?_, ?_, ?_, ?_, ?_, trivial⟩) ?_
      · exact .inl ⟨by simp, by simp, fun xf wq hk hbl hd K hK => by
          have y : Blk wq w.heap.size 24 #[.bool b, .slice A n c, .slice D m e] := hbl _ (List.Mem.head _) (by simp [Region.binds])
          obtain ⟨hcl0, hcl1, hcl2⟩ := y.c3
          (try dsimp only)
          go_simp
          exact hK.out (.agg #[.bool b, .slice A n c, .slice D m e]) _ rfl (brefl _)⟩
      · exact .inl ⟨by simp, by simp, fun xf wq hk hbl hd K hK => by
          have dq0 : xf 0 = .agg #[.bool b, .slice A n c, .slice D m e] := hd ⟨0, .data⟩ (by simp) rfl
          (try dsimp only); (try simp only [dq0])
          go_simp
          go_at_call 31
          (with_reducible refine (f_valid_e _ b A n c D m e r 12 v ?_ ?_ ?_).mono ?_); (first | exact HD.keep hk | exact HD | fail); (decide); (exact HO.out); rintro e wr ⟨rfl, hbr⟩
          have hz := hK.out (.bool v) _ rfl hbr
          simp only [dq0] at hz
          exact hz⟩
      · exact .inl ⟨by simp, by simp, fun xf wq hk hbl hd K hK => by
          have y : Blk wq w.heap.size 24 #[.bool b, .slice A n c, .slice D m e] := hbl _ (List.Mem.head _) (by simp [Region.binds])
          obtain ⟨hcl0, hcl1, hcl2⟩ := y.c3
          (try dsimp only)
          go_simp
          exact hK.out (.agg #[.bool b, .slice A n c, .slice D m e]) _ rfl (brefl _)⟩
      · exact .inl ⟨by simp, by simp, fun xf wq hk hbl hd K hK => by
          have dq2 : xf 2 = .agg #[.bool b, .slice A n c, .slice D m e] := hd ⟨2, .data⟩ (by simp) rfl
          (try dsimp only); (try simp only [dq2])
          go_simp
          go_at_call 32
          (with_reducible refine (g_valid_e _ b A n c D m e r 12 v ?_ ?_ ?_).mono ?_); (first | exact HD.keep hk | exact HD | fail); (decide); (exact HO.out); rintro e wr ⟨rfl, hbr⟩
          have hz := hK.out (.bool v) _ rfl hbr
          simp only [dq2] at hz
          exact hz⟩
      · exact .inl ⟨by simp, by simp, fun xf wq hk hbl hd K hK => by
          have dq1 : xf 1 = .bool v := hd ⟨1, .data⟩ (by simp) rfl
          have dq3 : xf 3 = .bool v := hd ⟨3, .data⟩ (by simp) rfl
          (try dsimp only); (try simp only [dq1, dq3])
          go_simp
          have hz := hK.out (.bool true) _ rfl (brefl _)
          simp only [dq1, dq3] at hz
          exact hz⟩
      · exact .inl ⟨by simp, by simp, fun xf wq hk hbl hd K hK => by
          have dq4 : xf 4 = .bool true := hd ⟨4, .data⟩ (by simp) rfl
          (try dsimp only); (try simp only [dq4])
          go_simp
          have hz := hK.out (.bool true) _ rfl (brefl _)
          simp only [dq4] at hz
          exact hz⟩
      · exact .inl ⟨by simp, by simp, fun xf wq hk hbl hd K hK => by
          have dq5 : xf 5 = .bool true := hd ⟨5, .guard⟩ (by simp) rfl
          (try dsimp only); (try simp only [dq5])
          go_simp
          have hz := hK.out (.pointer (some ⟨w.heap.size + 1, 0, none⟩)) _ rfl (brefl _)
          simp only [dq5] at hz
          exact hz⟩
      · exact .inl ⟨by simp, by simp, fun xf wq hk hbl hd K hK => by
          have dq6 : xf 6 = .pointer (some ⟨w.heap.size + 1, 0, none⟩) := hd ⟨6, .data⟩ (by simp) rfl
          have dq5 : xf 5 = .bool true := hd ⟨5, .guard⟩ (by simp) rfl
          have y : Blk wq (w.heap.size + 1) 44 #[.int .i64 i, .int .i64 j] := hbl _ (List.Mem.tail _ (List.Mem.head _)) (by simp [Region.binds])
          obtain ⟨hcl0, hcl1⟩ := y.c2
          (try dsimp only); (try simp only [dq6, dq5])
          go_simp
          have hz := hK.out (.int .i64 i) _ rfl (brefl _)
          simp only [dq6, dq5] at hz
          exact hz⟩
      · exact .inl ⟨by simp, by simp, fun xf wq hk hbl hd K hK => by
          have dq7 : xf 7 = .int .i64 i := hd ⟨7, .data⟩ (by simp) rfl
          have dq5 : xf 5 = .bool true := hd ⟨5, .guard⟩ (by simp) rfl
          (try dsimp only); (try simp only [dq7, dq5])
          go_simp
          go_at_call 34
          (with_reducible refine (f_of_w _ (i) ?_ ?_).mono ?_); (first | omega | decide | assumption); (first | omega | decide | assumption); rintro e wr ⟨b13, A13, n13, c13, A'13, n'13, c'13, rfl, h13, hbr⟩
          have hz := hK.out _ _ ⟨b13, A13, n13, c13, A'13, n'13, c'13, rfl, h13⟩ hbr
          simp only [dq7, dq5] at hz
          exact hz⟩
      · exact .inl ⟨by simp, by simp, fun xf wq hk hbl hd K hK => by
          have dq5 : xf 5 = .bool true := hd ⟨5, .guard⟩ (by simp) rfl
          (try dsimp only); (try simp only [dq5])
          go_simp
          have hz := hK.out (.pointer (some ⟨w.heap.size + 1, 0, none⟩)) _ rfl (brefl _)
          simp only [dq5] at hz
          exact hz⟩
      · exact .inl ⟨by simp, by simp, fun xf wq hk hbl hd K hK => by
          have dq9 : xf 9 = .pointer (some ⟨w.heap.size + 1, 0, none⟩) := hd ⟨9, .data⟩ (by simp) rfl
          have dq5 : xf 5 = .bool true := hd ⟨5, .guard⟩ (by simp) rfl
          have y : Blk wq (w.heap.size + 1) 44 #[.int .i64 i, .int .i64 j] := hbl _ (List.Mem.tail _ (List.Mem.head _)) (by simp [Region.binds])
          obtain ⟨hcl0, hcl1⟩ := y.c2
          (try dsimp only); (try simp only [dq9, dq5])
          go_simp
          have hz := hK.out (.int .i64 i) _ rfl (brefl _)
          simp only [dq9, dq5] at hz
          exact hz⟩
      · exact .inl ⟨by simp, by simp, fun xf wq hk hbl hd K hK => by
          have dq10 : xf 10 = .int .i64 i := hd ⟨10, .data⟩ (by simp) rfl
          have dq5 : xf 5 = .bool true := hd ⟨5, .guard⟩ (by simp) rfl
          (try dsimp only); (try simp only [dq10, dq5])
          go_simp
          go_at_call 35
          (with_reducible refine (g_of_w _ (i) ?_ ?_).mono ?_); (first | omega | decide | assumption); (first | omega | decide | assumption); rintro e wr ⟨b14, A14, n14, c14, A'14, n'14, c'14, rfl, h14, hbr⟩
          have hz := hK.out _ _ ⟨b14, A14, n14, c14, A'14, n'14, c'14, rfl, h14⟩ hbr
          simp only [dq10, dq5] at hz
          exact hz⟩
      · exact .inl ⟨by simp, by simp, fun xf wq hk hbl hd K hK => by
          obtain ⟨b13, A13, n13, c13, A'13, n'13, c'13, dq8, h13⟩ : VQ (((i : Int) : Rat)) (2) (xf 8) wq := hd ⟨8, .data⟩ (by simp) rfl
          obtain ⟨b14, A14, n14, c14, A'14, n'14, c'14, dq11, h14⟩ : VQ (((i : Int) : Rat)) (2) (xf 11) wq := hd ⟨11, .data⟩ (by simp) rfl
          have dq5 : xf 5 = .bool true := hd ⟨5, .guard⟩ (by simp) rfl
          (try dsimp only); (try simp only [dq8, dq11, dq5])
          go_simp
          go_at_call 33
          (with_reducible refine (rs_same _ b13 A13 n13 c13 A'13 n'13 c'13 (((i : Int) : Rat)) (2) ?_ b14 A14 n14 c14 A'14 n'14 c'14 (((i : Int) : Rat)) (2) ?_  ?_ ?_).mono ?_); (exact h13); (exact h14); (exact rfl); (omega); rintro e wr ⟨rfl, hbr⟩
          have hz := hK.out (.bool true) _ rfl hbr
          simp only [dq8, dq11, dq5] at hz
          exact hz⟩
      · exact .inl ⟨by simp, by simp, fun xf wq hk hbl hd K hK => by
          have dq5 : xf 5 = .bool true := hd ⟨5, .data⟩ (by simp) rfl
          have dq12 : xf 12 = .bool true := hd ⟨12, .data⟩ (by simp) rfl
          (try dsimp only); (try simp only [dq5, dq12])
          go_simp
          have hz := hK.out (.bool true) _ rfl (brefl _)
          simp only [dq5, dq12] at hz
          exact hz⟩
      · exact .inl ⟨by simp, by simp, fun xf wq hk hbl hd K hK => by
          have dq13 : xf 13 = .bool true := hd ⟨13, .data⟩ (by simp) rfl
          (try dsimp only); (try simp only [dq13])
          go_simp
          have hz := hK.out (.bool true) _ rfl (brefl _)
          simp only [dq13] at hz
          exact hz⟩
      · exact .inl ⟨by simp, by simp, fun xf wq hk hbl hd K hK => by
          have dq14 : xf 14 = .bool true := hd ⟨14, .guard⟩ (by simp) rfl
          (try dsimp only); (try simp only [dq14])
          go_simp
          have hz := hK.out (errV x1) _ rfl (brefl _)
          simp only [dq14] at hz
          exact hz⟩
      · exact .inl ⟨by simp, by simp, fun xf wq hk hbl hd K hK => by
          have dq15 : xf 15 = errV x1 := hd ⟨15, .data⟩ (by simp) rfl
          have dq14 : xf 14 = .bool true := hd ⟨14, .guard⟩ (by simp) rfl
          (try dsimp only); (try simp only [dq15, dq14])
          go_simp
          go_at_call 21
          (with_reducible refine (b_num_v _ x1).mono ?_); rintro e wr ⟨rfl, hbr⟩
          have hz := hK.out (.int .i64 x1) _ rfl hbr
          simp only [dq15, dq14] at hz
          exact hz⟩
      · exact .inl ⟨by simp, by simp, fun xf wq hk hbl hd K hK => by
          have dq14 : xf 14 = .bool true := hd ⟨14, .guard⟩ (by simp) rfl
          (try dsimp only); (try simp only [dq14])
          go_simp
          have hz := hK.out (.int .i64 x1) _ rfl (brefl _)
          simp only [dq14] at hz
          exact hz⟩
      · exact .inl ⟨by simp, by simp, fun xf wq hk hbl hd K hK => by
          have dq16 : xf 16 = .int .i64 x1 := hd ⟨16, .data⟩ (by simp) rfl
          have dq17 : xf 17 = .int .i64 x1 := hd ⟨17, .data⟩ (by simp) rfl
          have dq14 : xf 14 = .bool true := hd ⟨14, .guard⟩ (by simp) rfl
          (try dsimp only); (try simp only [dq16, dq17, dq14])
          go_simp
          have hz := hK.out (.bool true) _ rfl (brefl _)
          simp only [dq16, dq17, dq14] at hz
          exact hz⟩
      · exact .inl ⟨by simp, by simp, fun xf wq hk hbl hd K hK => by
          have dq14 : xf 14 = .bool true := hd ⟨14, .data⟩ (by simp) rfl
          have dq18 : xf 18 = .bool true := hd ⟨18, .data⟩ (by simp) rfl
          (try dsimp only); (try simp only [dq14, dq18])
          go_simp
          have hz := hK.out (.bool true) _ rfl (brefl _)
          simp only [dq14, dq18] at hz
          exact hz⟩
      · exact .inl ⟨by simp, by simp, fun xf wq hk hbl hd K hK => by
          have dq19 : xf 19 = .bool true := hd ⟨19, .data⟩ (by simp) rfl
          (try dsimp only); (try simp only [dq19])
          go_simp
          have hz := hK.out (.bool true) _ rfl (brefl _)
          simp only [dq19] at hz
          exact hz⟩
      · exact .inl ⟨by simp, by simp, fun xf wq hk hbl hd K hK => by
          have dq20 : xf 20 = .bool true := hd ⟨20, .guard⟩ (by simp) rfl
          have y : Blk wq w3.heap.size 24 #[.bool b3, .slice A3 n3 c3, .slice A'3 n'3 c'3] := hbl _ (List.Mem.tail _ (List.Mem.tail _ (List.Mem.tail _ (List.Mem.tail _ (List.Mem.head _))))) (by simp [Region.binds])
          obtain ⟨hcl0, hcl1, hcl2⟩ := y.c3
          (try dsimp only); (try simp only [dq20])
          go_simp
          have hz := hK.out (.agg #[.bool b3, .slice A3 n3 c3, .slice A'3 n'3 c'3]) _ rfl (brefl _)
          simp only [dq20] at hz
          exact hz⟩
      · exact .inl ⟨by simp, by simp, fun xf wq hk hbl hd K hK => by
          have dq20 : xf 20 = .bool true := hd ⟨20, .guard⟩ (by simp) rfl
          have y : Blk wq w6.heap.size 24 #[.bool b6, .slice A6 n6 c6, .slice A'6 n'6 c'6] := hbl _ (List.Mem.tail _ (List.Mem.tail _ (List.Mem.tail _ (List.Mem.tail _ (List.Mem.tail _ (List.Mem.tail _ (List.Mem.tail _ (List.Mem.tail _ (List.Mem.head _))))))))) (by simp [Region.binds])
          obtain ⟨hcl0, hcl1, hcl2⟩ := y.c3
          (try dsimp only); (try simp only [dq20])
          go_simp
          have hz := hK.out (.agg #[.bool b6, .slice A6 n6 c6, .slice A'6 n'6 c'6]) _ rfl (brefl _)
          simp only [dq20] at hz
          exact hz⟩
      · exact .inl ⟨by simp, by simp, fun xf wq hk hbl hd K hK => by
          have dq21 : xf 21 = .agg #[.bool b3, .slice A3 n3 c3, .slice A'3 n'3 c'3] := hd ⟨21, .data⟩ (by simp) rfl
          have dq22 : xf 22 = .agg #[.bool b6, .slice A6 n6 c6, .slice A'6 n'6 c'6] := hd ⟨22, .data⟩ (by simp) rfl
          have dq20 : xf 20 = .bool true := hd ⟨20, .guard⟩ (by simp) rfl
          (try dsimp only); (try simp only [dq21, dq22, dq20])
          go_simp
          go_at_call 33
          (with_reducible refine (rs_same _ b3 A3 n3 c3 A'3 n'3 c'3 (v1) (2) ?_ b6 A6 n6 c6 A'6 n'6 c'6 (v1) (2) ?_  ?_ ?_).mono ?_); (exact (h3.keep hk)); (exact (h6.keep hk)); (exact rfl); (omega); rintro e wr ⟨rfl, hbr⟩
          have hz := hK.out (.bool true) _ rfl hbr
          simp only [dq21, dq22, dq20] at hz
          exact hz⟩
      · exact .inl ⟨by simp, by simp, fun xf wq hk hbl hd K hK => by
          have dq20 : xf 20 = .bool true := hd ⟨20, .data⟩ (by simp) rfl
          have dq23 : xf 23 = .bool true := hd ⟨23, .data⟩ (by simp) rfl
          (try dsimp only); (try simp only [dq20, dq23])
          go_simp
          have hz := hK.out (.bool true) _ rfl (brefl _)
          simp only [dq20, dq23] at hz
          exact hz⟩
      · exact .inl ⟨by simp, by simp, fun xf wq hk hbl hd K hK => by
          have dq24 : xf 24 = .bool true := hd ⟨24, .data⟩ (by simp) rfl
          (try dsimp only); (try simp only [dq24])
          go_simp
          have hz := hK.out (.bool true) _ rfl (brefl _)
          simp only [dq24] at hz
          exact hz⟩
      · exact .inl ⟨by simp, by simp, fun xf wq hk hbl hd K hK => by
          have dq25 : xf 25 = .bool true := hd ⟨25, .guard⟩ (by simp) rfl
          (try dsimp only); (try simp only [dq25])
          go_simp
          have hz := hK.out (errV x2) _ rfl (brefl _)
          simp only [dq25] at hz
          exact hz⟩
      · exact .inl ⟨by simp, by simp, fun xf wq hk hbl hd K hK => by
          have dq26 : xf 26 = errV x2 := hd ⟨26, .data⟩ (by simp) rfl
          have dq25 : xf 25 = .bool true := hd ⟨25, .guard⟩ (by simp) rfl
          (try dsimp only); (try simp only [dq26, dq25])
          go_simp
          go_at_call 21
          (with_reducible refine (b_num_v _ x2).mono ?_); rintro e wr ⟨rfl, hbr⟩
          have hz := hK.out (.int .i64 x2) _ rfl hbr
          simp only [dq26, dq25] at hz
          exact hz⟩
      · exact .inl ⟨by simp, by simp, fun xf wq hk hbl hd K hK => by
          have dq25 : xf 25 = .bool true := hd ⟨25, .guard⟩ (by simp) rfl
          (try dsimp only); (try simp only [dq25])
          go_simp
          have hz := hK.out (.int .i64 x2) _ rfl (brefl _)
          simp only [dq25] at hz
          exact hz⟩
      · exact .inl ⟨by simp, by simp, fun xf wq hk hbl hd K hK => by
          have dq27 : xf 27 = .int .i64 x2 := hd ⟨27, .data⟩ (by simp) rfl
          have dq28 : xf 28 = .int .i64 x2 := hd ⟨28, .data⟩ (by simp) rfl
          have dq25 : xf 25 = .bool true := hd ⟨25, .guard⟩ (by simp) rfl
          (try dsimp only); (try simp only [dq27, dq28, dq25])
          go_simp
          have hz := hK.out (.bool true) _ rfl (brefl _)
          simp only [dq27, dq28, dq25] at hz
          exact hz⟩
      · exact .inl ⟨by simp, by simp, fun xf wq hk hbl hd K hK => by
          have dq25 : xf 25 = .bool true := hd ⟨25, .data⟩ (by simp) rfl
          have dq29 : xf 29 = .bool true := hd ⟨29, .data⟩ (by simp) rfl
          (try dsimp only); (try simp only [dq25, dq29])
          go_simp
          have hz := hK.out (.bool true) _ rfl (brefl _)
          simp only [dq25, dq29] at hz
          exact hz⟩
      · exact .inl ⟨by simp, by simp, fun xf wq hk hbl hd K hK => by
          have dq30 : xf 30 = .bool true := hd ⟨30, .data⟩ (by simp) rfl
          (try dsimp only); (try simp only [dq30])
          go_simp
          have hz := hK.out (.bool true) _ rfl (brefl _)
          simp only [dq30] at hz
          exact hz⟩
      · exact .inl ⟨by simp, by simp, fun xf wq hk hbl hd K hK => by
          have dq31 : xf 31 = .bool true := hd ⟨31, .guard⟩ (by simp) rfl
          have y : Blk wq w4.heap.size 24 #[.bool b4, .slice A4 n4 c4, .slice A'4 n'4 c'4] := hbl _ (List.Mem.tail _ (List.Mem.tail _ (List.Mem.tail _ (List.Mem.tail _ (List.Mem.tail _ (List.Mem.head _)))))) (by simp [Region.binds])
          obtain ⟨hcl0, hcl1, hcl2⟩ := y.c3
          (try dsimp only); (try simp only [dq31])
          go_simp
          have hz := hK.out (.agg #[.bool b4, .slice A4 n4 c4, .slice A'4 n'4 c'4]) _ rfl (brefl _)
          simp only [dq31] at hz
          exact hz⟩
      · exact .inl ⟨by simp, by simp, fun xf wq hk hbl hd K hK => by
          have dq31 : xf 31 = .bool true := hd ⟨31, .guard⟩ (by simp) rfl
          have y : Blk wq w7.heap.size 24 #[.bool b7, .slice A7 n7 c7, .slice A'7 n'7 c'7] := hbl _ (List.Mem.tail _ (List.Mem.tail _ (List.Mem.tail _ (List.Mem.tail _ (List.Mem.tail _ (List.Mem.tail _ (List.Mem.tail _ (List.Mem.tail _ (List.Mem.tail _ (List.Mem.head _)))))))))) (by simp [Region.binds])
          obtain ⟨hcl0, hcl1, hcl2⟩ := y.c3
          (try dsimp only); (try simp only [dq31])
          go_simp
          have hz := hK.out (.agg #[.bool b7, .slice A7 n7 c7, .slice A'7 n'7 c'7]) _ rfl (brefl _)
          simp only [dq31] at hz
          exact hz⟩
      · exact .inl ⟨by simp, by simp, fun xf wq hk hbl hd K hK => by
          have dq32 : xf 32 = .agg #[.bool b4, .slice A4 n4 c4, .slice A'4 n'4 c'4] := hd ⟨32, .data⟩ (by simp) rfl
          have dq33 : xf 33 = .agg #[.bool b7, .slice A7 n7 c7, .slice A'7 n'7 c'7] := hd ⟨33, .data⟩ (by simp) rfl
          have dq31 : xf 31 = .bool true := hd ⟨31, .guard⟩ (by simp) rfl
          (try dsimp only); (try simp only [dq32, dq33, dq31])
          go_simp
          go_at_call 33
          (with_reducible refine (rs_same _ b4 A4 n4 c4 A'4 n'4 c'4 (v2) (12) ?_ b7 A7 n7 c7 A'7 n'7 c'7 (v2) (12) ?_  ?_ ?_).mono ?_); (exact (h4.keep hk)); (exact (h7.keep hk)); (exact rfl); (omega); rintro e wr ⟨rfl, hbr⟩
          have hz := hK.out (.bool true) _ rfl hbr
          simp only [dq32, dq33, dq31] at hz
          exact hz⟩
      · exact .inl ⟨by simp, by simp, fun xf wq hk hbl hd K hK => by
          have dq31 : xf 31 = .bool true := hd ⟨31, .data⟩ (by simp) rfl
          have dq34 : xf 34 = .bool true := hd ⟨34, .data⟩ (by simp) rfl
          (try dsimp only); (try simp only [dq31, dq34])
          go_simp
          have hz := hK.out (.bool true) _ rfl (brefl _)
          simp only [dq31, dq34] at hz
          exact hz⟩
      · exact .inl ⟨by simp, by simp, fun xf wq hk hbl hd K hK => by
          have dq35 : xf 35 = .bool true := hd ⟨35, .data⟩ (by simp) rfl
          (try dsimp only); (try simp only [dq35])
          go_simp
          have hz := hK.out (.bool true) _ rfl (brefl _)
          simp only [dq35] at hz
          exact hz⟩
      · exact .inl ⟨by simp, by simp, fun xf wq hk hbl hd K hK => by
          have dq36 : xf 36 = .bool true := hd ⟨36, .guard⟩ (by simp) rfl
          have y : Blk wq w5.heap.size 46 #[.bool b5, .slice A5 n5 c5] := hbl _ (List.Mem.tail _ (List.Mem.tail _ (List.Mem.tail _ (List.Mem.tail _ (List.Mem.tail _ (List.Mem.tail _ (List.Mem.head _))))))) (by simp [Region.binds])
          obtain ⟨hcl0, hcl1⟩ := y.c2
          (try dsimp only); (try simp only [dq36])
          go_simp
          have hz := hK.out (.agg #[.bool b5, .slice A5 n5 c5]) _ rfl (brefl _)
          simp only [dq36] at hz
          exact hz⟩
      · exact .inl ⟨by simp, by simp, fun xf wq hk hbl hd K hK => by
          have dq36 : xf 36 = .bool true := hd ⟨36, .guard⟩ (by simp) rfl
          have y : Blk wq w8.heap.size 46 #[.bool b8, .slice A8 n8 c8] := hbl _ (List.Mem.tail _ (List.Mem.tail _ (List.Mem.tail _ (List.Mem.tail _ (List.Mem.tail _ (List.Mem.tail _ (List.Mem.tail _ (List.Mem.tail _ (List.Mem.tail _ (List.Mem.tail _ (List.Mem.head _))))))))))) (by simp [Region.binds])
          obtain ⟨hcl0, hcl1⟩ := y.c2
          (try dsimp only); (try simp only [dq36])
          go_simp
          have hz := hK.out (.agg #[.bool b8, .slice A8 n8 c8]) _ rfl (brefl _)
          simp only [dq36] at hz
          exact hz⟩
      · exact .inl ⟨by simp, by simp, fun xf wq hk hbl hd K hK => by
          have dq37 : xf 37 = .agg #[.bool b5, .slice A5 n5 c5] := hd ⟨37, .data⟩ (by simp) rfl
          have dq38 : xf 38 = .agg #[.bool b8, .slice A8 n8 c8] := hd ⟨38, .data⟩ (by simp) rfl
          have dq36 : xf 36 = .bool true := hd ⟨36, .guard⟩ (by simp) rfl
          (try dsimp only); (try simp only [dq37, dq38, dq36])
          go_simp
          go_at_call 36
          (with_reducible refine (s_same _ b5 A5 n5 c5 ((q).num) ((12)) ?_ b8 A8 n8 c8 ((q).num) ((12)) ?_  ?_ ?_).mono ?_); (exact (h5.keep hk)); (exact (h8.keep hk)); (exact rfl); (omega); rintro e wr ⟨rfl, hbr⟩
          have hz := hK.out (.bool true) _ rfl hbr
          simp only [dq37, dq38, dq36] at hz
          exact hz⟩
      · exact .inl ⟨by simp, by simp, fun xf wq hk hbl hd K hK => by
          have dq36 : xf 36 = .bool true := hd ⟨36, .data⟩ (by simp) rfl
          have dq39 : xf 39 = .bool true := hd ⟨39, .data⟩ (by simp) rfl
          (try dsimp only); (try simp only [dq36, dq39])
          go_simp
          have hz := hK.out (.bool true) _ rfl (brefl _)
          simp only [dq36, dq39] at hz
          exact hz⟩
      · exact .inl ⟨by simp, by simp, fun xf wq hk hbl hd K hK => by
          have dq40 : xf 40 = .bool true := hd ⟨40, .data⟩ (by simp) rfl
          (try dsimp only); (try simp only [dq40])
          go_simp
          have hz := hK.out (.bool true) _ rfl (brefl _)
          simp only [dq40] at hz
          exact hz⟩
      · exact .inl ⟨by simp, by simp, fun xf wq hk hbl hd K hK => by
          have dq41 : xf 41 = .bool true := hd ⟨41, .guard⟩ (by simp) rfl
          have y : Blk wq (w5.heap.size + 1) 46 #[.bool b'5, .slice A'5 n'5 c'5] := hbl _ (List.Mem.tail _ (List.Mem.tail _ (List.Mem.tail _ (List.Mem.tail _ (List.Mem.tail _ (List.Mem.tail _ (List.Mem.tail _ (List.Mem.head _)))))))) (by simp [Region.binds])
          obtain ⟨hcl0, hcl1⟩ := y.c2
          (try dsimp only); (try simp only [dq41])
          go_simp
          have hz := hK.out (.agg #[.bool b'5, .slice A'5 n'5 c'5]) _ rfl (brefl _)
          simp only [dq41] at hz
          exact hz⟩
      · exact .inl ⟨by simp, by simp, fun xf wq hk hbl hd K hK => by
          have dq41 : xf 41 = .bool true := hd ⟨41, .guard⟩ (by simp) rfl
          have y : Blk wq (w8.heap.size + 1) 46 #[.bool b'8, .slice A'8 n'8 c'8] := hbl _ (List.Mem.tail _ (List.Mem.tail _ (List.Mem.tail _ (List.Mem.tail _ (List.Mem.tail _ (List.Mem.tail _ (List.Mem.tail _ (List.Mem.tail _ (List.Mem.tail _ (List.Mem.tail _ (List.Mem.tail _ (List.Mem.head _)))))))))))) (by simp [Region.binds])
          obtain ⟨hcl0, hcl1⟩ := y.c2
          (try dsimp only); (try simp only [dq41])
          go_simp
          have hz := hK.out (.agg #[.bool b'8, .slice A'8 n'8 c'8]) _ rfl (brefl _)
          simp only [dq41] at hz
          exact hz⟩
      · exact .inl ⟨by simp, by simp, fun xf wq hk hbl hd K hK => by
          have dq42 : xf 42 = .agg #[.bool b'5, .slice A'5 n'5 c'5] := hd ⟨42, .data⟩ (by simp) rfl
          have dq43 : xf 43 = .agg #[.bool b'8, .slice A'8 n'8 c'8] := hd ⟨43, .data⟩ (by simp) rfl
          have dq41 : xf 41 = .bool true := hd ⟨41, .guard⟩ (by simp) rfl
          (try dsimp only); (try simp only [dq42, dq43, dq41])
          go_simp
          go_at_call 36
          (with_reducible refine (s_same _ b'5 A'5 n'5 c'5 (((q).den : Int)) ((12)) ?_ b'8 A'8 n'8 c'8 (((q).den : Int)) ((12)) ?_  ?_ ?_).mono ?_); (exact (h'5.keep hk)); (exact (h'8.keep hk)); (exact rfl); (omega); rintro e wr ⟨rfl, hbr⟩
          have hz := hK.out (.bool true) _ rfl hbr
          simp only [dq42, dq43, dq41] at hz
          exact hz⟩
      · exact .inl ⟨by simp, by simp, fun xf wq hk hbl hd K hK => by
          have dq41 : xf 41 = .bool true := hd ⟨41, .data⟩ (by simp) rfl
          have dq44 : xf 44 = .bool true := hd ⟨44, .data⟩ (by simp) rfl
          (try dsimp only); (try simp only [dq41, dq44])
          go_simp
          have hz := hK.out (.bool true) _ rfl (brefl _)
          simp only [dq41, dq44] at hz
          exact hz⟩
      · exact .inl ⟨by simp, by simp, fun xf wq hk hbl hd K hK => by
          have dq45 : xf 45 = .bool true := hd ⟨45, .data⟩ (by simp) rfl
          (try dsimp only); (try simp only [dq45])
          go_simp
          have hz := hK.out (.bool true) _ rfl (brefl _)
          simp only [dq45] at hz
          exact hz⟩
      clear cx1aa cx1ab cx1ac lx1aa lx1ab lx1ac lx1ad cx1ba cx1bb lx1ba lx1bb lx1bc lx1bd cx4aa cx4ab cx4ac lx4aa lx4ab lx4ac lx4ad cx5aa cx5ab cx5ac lx5aa lx5ab lx5ac lx5ad cx6aa cx6ab lx6aa lx6ab lx6ac lx6ad cx6ba cx6bb lx6ba lx6bb lx6bc lx6bd cx7aa cx7ab cx7ac lx7aa lx7ab lx7ac lx7ad cx8aa cx8ab cx8ac lx8aa lx8ab lx8ac lx8ad cx9aa cx9ab lx9aa lx9ab lx9ac lx9ad cx9ba cx9bb lx9ba lx9bb lx9bc lx9bd
      intro y10 w10 kq10 hbl10 lw10 how hrr hfl hds
      replace H := H.keep kq10
      replace HD := HD.keep kq10
      replace H' := H'.keep kq10
      replace H2 := H2.keep kq10
      replace h3 := h3.keep kq10
      replace h4 := h4.keep kq10
      replace h5 := h5.keep kq10
      replace h'5 := h'5.keep kq10
      replace h6 := h6.keep kq10
      replace h7 := h7.keep kq10
      replace h8 := h8.keep kq10
      replace h'8 := h'8.keep kq10
      obtain ⟨_, z10_0, ez, _⟩ := how _ (List.Mem.head _)
      obtain rfl := ez (by simp)
      dsimp only at z10_0
      obtain ⟨_, z10_1, ez, _⟩ := how _ (List.Mem.tail _ (List.Mem.head _))
      obtain rfl := ez (by simp)
      dsimp only at z10_1
      obtain ⟨_, z10_2, ez, _⟩ := how _ (List.Mem.tail _ (List.Mem.tail _ (List.Mem.head _)))
      obtain rfl := ez (by simp)
      dsimp only at z10_2
      obtain ⟨_, z10_3, ez, _⟩ := how _ (List.Mem.tail _ (List.Mem.tail _ (List.Mem.tail _ (List.Mem.head _))))
      obtain rfl := ez (by simp)
      dsimp only at z10_3
      obtain ⟨_, z10_4, ez, _⟩ := how _ (List.Mem.tail _ (List.Mem.tail _ (List.Mem.tail _ (List.Mem.tail _ (List.Mem.head _)))))
      obtain rfl := ez (by simp)
      dsimp only at z10_4
      obtain ⟨_, z10_5, ez, _⟩ := how _ (List.Mem.tail _ (List.Mem.tail _ (List.Mem.tail _ (List.Mem.tail _ (List.Mem.tail _ (List.Mem.head _))))))
      obtain rfl := ez (by simp)
      dsimp only at z10_5
      obtain ⟨_, z10_6, ez, _⟩ := how _ (List.Mem.tail _ (List.Mem.tail _ (List.Mem.tail _ (List.Mem.tail _ (List.Mem.tail _ (List.Mem.tail _ (List.Mem.head _)))))))
      obtain rfl := ez (by simp)
      dsimp only at z10_6
      obtain ⟨_, z10_7, ez, _⟩ := how _ (List.Mem.tail _ (List.Mem.tail _ (List.Mem.tail _ (List.Mem.tail _ (List.Mem.tail _ (List.Mem.tail _ (List.Mem.tail _ (List.Mem.head _))))))))
      obtain rfl := ez (by simp)
      dsimp only at z10_7
      obtain ⟨_, z10_8, ez, _⟩ := how _ (List.Mem.tail _ (List.Mem.tail _ (List.Mem.tail _ (List.Mem.tail _ (List.Mem.tail _ (List.Mem.tail _ (List.Mem.tail _ (List.Mem.tail _ (List.Mem.head _)))))))))
      obtain rfl := ez (by simp)
      dsimp only at z10_8
      obtain ⟨_, z10_9, ez, _⟩ := how _ (List.Mem.tail _ (List.Mem.tail _ (List.Mem.tail _ (List.Mem.tail _ (List.Mem.tail _ (List.Mem.tail _ (List.Mem.tail _ (List.Mem.tail _ (List.Mem.tail _ (List.Mem.head _))))))))))
      obtain rfl := ez (by simp)
      dsimp only at z10_9
      obtain ⟨_, z10_10, ez, _⟩ := how _ (List.Mem.tail _ (List.Mem.tail _ (List.Mem.tail _ (List.Mem.tail _ (List.Mem.tail _ (List.Mem.tail _ (List.Mem.tail _ (List.Mem.tail _ (List.Mem.tail _ (List.Mem.tail _ (List.Mem.head _)))))))))))
      obtain rfl := ez (by simp)
      dsimp only at z10_10
      obtain ⟨_, z10_11, ez, _⟩ := how _ (List.Mem.tail _ (List.Mem.tail _ (List.Mem.tail _ (List.Mem.tail _ (List.Mem.tail _ (List.Mem.tail _ (List.Mem.tail _ (List.Mem.tail _ (List.Mem.tail _ (List.Mem.tail _ (List.Mem.tail _ (List.Mem.head _))))))))))))
      obtain rfl := ez (by simp)
      dsimp only at z10_11
      have ea46 : y10 46 = .bool true := hrr 46 (by simp)
      (try dsimp only)
      simp only [ea46]
      clear hrr hfl how hds ea46
      clear x1a x1b x1c x1d x4a x5a x6a x6b x7a x8a x9a x9b
      have bw10 := bw9.trans hbl10
      clear bw9
      go_wp2_with fail
      go_ret
      exact retB rfl bw10
    · go_wp2_with fail
      (with_reducible refine (l2_awake _  ?_ ?_).mono ?_); (exact htab.belw bw1); (exact hmx.belw bw1); rintro e w2 ⟨rfl, q2⟩
      clear cx1ca cx1cb cx1cc cx1cd lx1ca lx1cb lx1cc lx1cd
      replace H := H.belw q2
      replace HD := HD.belw q2
      replace H' := H'.belw q2
      replace H2 := H2.belw q2
      replace x1a := x1a.b q2
      replace x1b := x1b.b q2
      replace x1c := x1c.b q2
      replace x1d := x1d.b q2
      have bw2 := bw1.trans (q2.mono bw1.size)
      have lw2 := q2.size
      clear q2 bw1
      go_wp2_with fail
      go_ret
      exact retB rfl bw2
    · go_wp2_with fail
      (with_reducible refine (l2_awake _  ?_ ?_).mono ?_); (exact htab.belw bw1); (exact hmx.belw bw1); rintro e w2 ⟨rfl, q2⟩
      clear cx1ca cx1cb cx1cc cx1cd lx1ca lx1cb lx1cc lx1cd
      replace H := H.belw q2
      replace HD := HD.belw q2
      replace H' := H'.belw q2
      replace H2 := H2.belw q2
      replace x1a := x1a.b q2
      replace x1b := x1b.b q2
      replace x1c := x1c.b q2
      replace x1d := x1d.b q2
      have bw2 := bw1.trans (q2.mono bw1.size)
      have lw2 := q2.size
      clear q2 bw1
      go_wp2_with fail
      go_ret
      exact retB rfl bw2
end Go.Proofs.YtkpjhmpjihchpaaGreatDoor

namespace Go.Proofs.YtkpjhmpjihchpaaGreatDoor
open Go Go.RowKit Bn Go.ChangeShapes Go.WideShapes

theorem wf64 {i : Int} (h : (Lit.int .i64 i).wf = true) : -9223372036854775808 ≤ i ∧ i < 9223372036854775808 := by
  have h : -9223372036854775808 ≤ i ∧ i ≤ 9223372036854775807 := by simpa [Lit.wf, IntKind.min, IntKind.max, IntKind.signed, IntKind.bits] using h
  omega
section
variable {H : Type} {enc : TypeId × Value → H} {W : World} {base : Nat}
theorem cells_ok_arr {t e : TypeId} {k : Nat} {ts : List TypeId} {v : Value} (hu : Tryz.prog.underlying t = some (.array k e)) (hts : Tryz.prog.cellTypes Tryz.prog.depth t = some ts) (hn : Tryz.prog.cellsOf t = ts.length) (h : Value.okWide Tryz.prog W .any base t v) :
    ∃ cs : Array Value, v = .agg cs ∧ cs.size = ts.length ∧ ∀ (i : Nat) (v : Value) (u : TypeId), cs[i]? = some v → ts[i]? = some u → Cell.okWide Tryz.prog W .any base u v := by
  unfold Value.okWide at h
  rw [hu] at h
  obtain ⟨cs, rfl, hsz, ts', hts', _, hc⟩ := h
  rw [hts] at hts'
  injection hts' with e
  subst e
  rw [hn] at hsz
  refine ⟨cs, rfl, hsz, fun i v u hi hu => ?_⟩
  obtain ⟨u', h1, h2⟩ := hc i v hi
  have hlt : i < ts.length := by rw [← hsz]; exact (Array.getElem?_eq_some_iff.1 hi).1
  rw [Nat.mod_eq_of_lt hlt, hu] at h1
  injection h1 with h1
  subst h1
  exact h2
theorem ints2_open {v : Value} {d : DataW H} {p : List MemPlace} (hok : Value.okWide Tryz.prog W .any base 44 v) (h : DataW.Trod enc Tryz.prog W 0 (fun _ => true) true 44 v d p) :
    ∃ i j, v = .agg #[.int .i64 i, .int .i64 j] ∧ (Lit.int .i64 i).wf = true ∧ (Lit.int .i64 j).wf = true := by
  obtain ⟨cs, rfl, hsz, hc⟩ := cells_ok_arr (ts := [3, 3]) Tryz.underlying44 (by kernel_rfl) (by kernel_rfl) hok
  obtain ⟨fuel, h⟩ := h
  obtain ⟨l⟩ := cs
  match l, hsz with
  | [v0, v1], _ =>
    obtain ⟨xs, n, _, _, _, hxl, hf⟩ := DataW.trod_array Tryz.underlying44 h
    have c1 : Tryz.prog.cellsOf 3 = 1 := by kernel_rfl
    have f0 := hf 0 (by decide)
    have f1 := hf 1 (by decide)
    rw [c1] at f0 f1
    rw [List.getElem?_eq_getElem (show 0 < xs.length by omega)] at f0
    rw [List.getElem?_eq_getElem (show 1 < xs.length by omega)] at f1
    have f0 : DataW.trod enc Tryz.prog W 0 (fun _ => true) true n 3 [v0] = _ := f0
    have f1 : DataW.trod enc Tryz.prog W 0 (fun _ => true) true n 3 [v1] = _ := f1
    obtain ⟨i, hi, _, hw⟩ := DataW.trod_int Tryz.underlying3 f0
    obtain ⟨j, hj, _, hw'⟩ := DataW.trod_int Tryz.underlying3 f1
    injection hi with hi _
    injection hj with hj _
    subst hi hj
    exact ⟨i, j, rfl, hw, hw'⟩
theorem wholec_open {v0 v1 : Value} {fuel : Nat} {x : DataW H × List MemPlace} (o1 : Cell.okWide Tryz.prog W .any base 22 v1) (ht : DataW.trod enc Tryz.prog W 0 (fun _ => true) true fuel 46 [v0, v1] = some x) :
    ∃ b A n c z k, v0 = .bool b ∧ v1 = .slice A n c ∧ IZ W b A n c z k := by
  obtain ⟨xs, n, _, _, _, hxl, hf⟩ := DataW.trod_struct Tryz.underlying46 ht
  have f0 : DataW.trod enc Tryz.prog W 0 (fun _ => true) true n 4 (List.take (Tryz.prog.cellsOf 4) [v0, v1]) = xs[0]? := hf 0 _ rfl
  have f1 : DataW.trod enc Tryz.prog W 0 (fun _ => true) true n 22 (List.take (Tryz.prog.cellsOf 22) [v1]) = xs[1]? := hf 1 _ rfl
  have c1 : Tryz.prog.cellsOf 22 = 1 := by kernel_rfl
  have c0 : Tryz.prog.cellsOf 4 = 1 := by kernel_rfl
  try dsimp only at f0 f1
  rw [c0] at f0
  rw [c1] at f1
  have hx0 : xs.length = 2 := hxl
  rw [List.getElem?_eq_getElem (show 0 < xs.length by omega)] at f0
  rw [List.getElem?_eq_getElem (show 1 < xs.length by omega)] at f1
  obtain ⟨b, hb, _⟩ := DataW.trod_bool Tryz.underlying4 f0
  obtain ⟨A, n1, cc, l, rfl, h1⟩ := words_open o1 f1
  injection hb with hb _
  exact ⟨b, A, n1, cc, _, n1, hb, rfl, l, h1, rfl, Nat.le_refl _⟩
theorem whole2_open {v : Value} {d : DataW H} {p : List MemPlace} (hok : Value.okWide Tryz.prog W .any base 47 v) (h : DataW.Trod enc Tryz.prog W 0 (fun _ => true) true 47 v d p) :
    ∃ b A n c z k b' A' n' c' z' k', v = .agg #[.bool b, .slice A n c, .bool b', .slice A' n' c'] ∧ IZ W b A n c z k ∧ IZ W b' A' n' c' z' k' := by
  obtain ⟨cs, rfl, hsz, hc⟩ := cells_ok_arr (ts := [4, 22, 4, 22]) Tryz.underlying47 (by kernel_rfl) (by kernel_rfl) hok
  obtain ⟨fuel, h⟩ := h
  obtain ⟨l⟩ := cs
  match l, hsz with
  | [v0, v1, v2, v3], _ =>
    obtain ⟨xs, n, _, _, _, hxl, hf⟩ := DataW.trod_array Tryz.underlying47 h
    have c1 : Tryz.prog.cellsOf 46 = 2 := by kernel_rfl
    have f0 := hf 0 (by decide)
    have f1 := hf 1 (by decide)
    rw [c1] at f0 f1
    rw [List.getElem?_eq_getElem (show 0 < xs.length by omega)] at f0
    rw [List.getElem?_eq_getElem (show 1 < xs.length by omega)] at f1
    have f0 : DataW.trod enc Tryz.prog W 0 (fun _ => true) true n 46 [v0, v1] = _ := f0
    have f1 : DataW.trod enc Tryz.prog W 0 (fun _ => true) true n 46 [v2, v3] = _ := f1
    obtain ⟨b, A, n1, cc, z, k, rfl, rfl, h1⟩ := wholec_open (hc 1 v1 _ rfl rfl) f0
    obtain ⟨b', A', n1', cc', z', k', rfl, rfl, h2⟩ := wholec_open (hc 3 v3 _ rfl rfl) f1
    exact ⟨b, A, n1, cc, z, k, b', A', n1', cc', z', k', rfl, h1, h2⟩
end
end Go.Proofs.YtkpjhmpjihchpaaGreatDoor

/- FractionValid: validity, and fractions of integers, are those of the reference; for every input the law returns true. The listed library variables are tied to the program text. -/
namespace Go.Proofs.YtkpjhmpjihchpaaGreatDoor
open Go Go.RowKit Bn Go.ChangeShapes Go.WideShapes Go.ChangeAt
theorem valid_contract (H : Type) (enc : TypeId × Value → H) (W : World) (base : Nat) (args : Array Value) (ds gs : List (DataW H)) (before : List MemPlace)
    (hval0 : ∀ (j : Nat) t v, Tryz.f4.params[j]? = some t → args[j]? = some v → Value.okWide Tryz.prog W .any base t v)
    (hW : DataW.Whole enc Tryz.prog Tryz.f4.params.toList Rows.fractionValidSpec.vars false W args.toList ds gs before) (hL : laidMetH Tryz.prog Rows.fractionValidRow.laid W) (hsh : W.ShapedOpen Tryz.prog) :
    Calls Tryz.prog 4 args W fun e W' => ∃ v, e = .returned v ∧ Rows.fractionValidSpec.post enc Tryz.prog Tryz.f4 false true false false W args v W' := by
  have hval : ∀ (j : Nat) t v, Tryz.f4.params[j]? = some t → args[j]? = some v → Value.okWide Tryz.prog W .any base t v := hval0
  have htab : Tab W := tab_of_laid hL
  have hmx : Mx W := mx_of_shaped hsh
  have hW' := hW
  obtain ⟨p, q, hA0, hV, rfl, hfz, hnd⟩ := hW
  have hA : DataW.TrodAll enc Tryz.prog W 0 (fun _ => true) true Tryz.f4.params.toList args.toList ds p := hA0
  rw [Tryz.params4] at hA hval
  obtain ⟨v0, v1, v2, d0, d1, d2, p0, p1, p2, rfl, rfl, rfl, h0, h1, h2⟩ := trodAll_three hA
  obtain ⟨rfl, rfl⟩ := trodVars_none hV
  obtain ⟨b, A, n, c, D, m, e, r, k, rfl, H⟩ := frac_open (hval 0 _ v0 rfl rfl) h0
  obtain ⟨i, j, rfl, hi, hj⟩ := ints2_open (hval 1 _ v1 rfl rfl) h1
  obtain ⟨b0, A0, n0, c0, z0, k0, b1, A1, n1, c1, z1, k1, rfl, H0, H1⟩ := whole2_open (hval 2 _ v2 rfl rfl) h2
  refine (l_FractionValid W b A n c D m e r k H i j (wf64 hi) (wf64 hj) b0 A0 n0 c0 z0 k0 H0 b1 A1 n1 c1 z1 k1 H1 htab hmx).mono fun e W' ⟨he, hb⟩ => ?_
  subst he
  exact ⟨_, rfl, law_post laid_out Tryz.underlying4 hW' rfl rfl (by kernel_rfl) rfl rfl rfl hb⟩
theorem valid_lifted (os : Os) (started : os.Started) (H : Type) (enc : TypeId × Value → H) (F : Stop.Interp) :
    ReturnsInHanded {} Tryz.checked os 4 .any ((OpenSpec.ofChange Rows.fractionValidSpec).preRow enc Tryz.prog Tryz.f4 Rows.fractionValidRow.domain false Rows.fractionValidRow.laid) (((OpenSpec.ofChange Rows.fractionValidSpec).at F).post enc Tryz.prog Tryz.f4 false true false false) := by
  have hx : DataW.whole enc Tryz.prog ((laidWorld os).forCall (fun _ _ => 0) ⟨#[], #[.agg #[.bool false, .slice none 0 0, .slice none 0 0], .agg #[.int .i64 0, .int .i64 0], .agg #[.bool false, .slice none 0 0, .bool false, .slice none 0 0]], []⟩).memory Tryz.f4.params.toList Rows.fractionValidSpec.vars false (#[.agg #[.bool false, .slice none 0 0, .slice none 0 0], .agg #[.int .i64 0, .int .i64 0], .agg #[.bool false, .slice none 0 0, .bool false, .slice none 0 0]] : Array Value).toList 8 = some ([.agg [.lit (.bool false), .nil, .nil], .agg [.lit (.int .i64 0), .lit (.int .i64 0)], .agg [.agg [.lit (.bool false), .nil], .agg [.lit (.bool false), .nil]]], [], []) := by kernel_rfl
  have hl : laidMet Tryz.prog Rows.fractionValidRow.laid ((laidWorld os).forCall (fun _ _ => 0) ⟨#[], #[.agg #[.bool false, .slice none 0 0, .slice none 0 0], .agg #[.int .i64 0, .int .i64 0], .agg #[.bool false, .slice none 0 0, .bool false, .slice none 0 0]], []⟩).memory := laidMet_of_run' 8 (by kernel_rfl) (by kernel_rfl)
  refine returnsInHanded_of_row (C := Tryz.checked) (s := OpenSpec.ofChange Rows.fractionValidSpec) own_knob started (by kernel_rfl) Tryz.func4
    (witness_row_at (enc := enc) (C := Tryz.checked) false (laidWorld os) #[.agg #[.bool false, .slice none 0 0, .slice none 0 0], .agg #[.int .i64 0, .int .i64 0], .agg #[.bool false, .slice none 0 0, .bool false, .slice none 0 0]] rfl (by kernel_rfl) (by kernel_rfl) (by kernel_rfl)
      (OpenSpec.preRow_of_cond 8 hx (by kernel_rfl) (fun k hk => by cases hk) (by kernel_rfl) hl)) ?_
  intro W base args ds gs before hval hW _ _ _ hL hsh _
  exact valid_contract H enc W base args ds gs before hval hW hL hsh
theorem valid_j2 : (Rows.fractionValidRow.inPlace == Tryz.pinned.checked.prog.inPlace 4) = true := by kernel_rfl
theorem valid_j3 : (Rows.fractionValidRow.unfollowed == Tryz.pinned.checked.prog.unfollowed 4) = true := by kernel_rfl
theorem valid_j4 : (Rows.fractionValidRow.recurses == Tryz.pinned.checked.prog.recurses 4) = true := by kernel_rfl
theorem valid_j5 : (Rows.fractionValidRow.named == Tryz.pinned.checked.prog.varsNamed 4) = true := by kernel_rfl
theorem valid_joined : joinedFacts Tryz.pinned.checked.prog 4 Tryz.f4 (OpenSpec.ofChange Rows.fractionValidSpec).bare Rows.fractionValidRow = true := joined_parts (by kernel_rfl) valid_j2 valid_j3 valid_j4 valid_j5 (by kernel_rfl)
theorem valid_inst : Tryz.f4.isInstance Tryz.pinned.checked.prog Rows.fractionValidRow.origin Rows.fractionValidRow.targs := of_decide_eq_true (by kernel_rfl)
theorem valid_said : Rows.FractionValidSaid :=
  OpenClaim.holds_of_cond 4 Tryz.f4 rfl rfl rfl rfl rfl rfl rfl ⟨rfl, rfl, rfl, rfl, rfl⟩ rfl rfl rfl rfl rfl (by kernel_rfl) Tryz.func4 valid_joined
    valid_inst (by unfold Func.isWrapper; first | (rw [if_pos (by decide +kernel)]; kernel_rfl) | (rw [if_neg (by decide +kernel)]; exact ⟨rfl, rfl⟩))
    (fun os started H enc _ F => by rw [OpenClaim.pre_eq_preRow]; exact valid_lifted os started H enc F)
theorem valid_plain (f : FuncId) (fn : Func) (hf : Tryz.pinned.checked.prog.funcNamed "linkwork/linkworklaw02.FractionValid" = some f) (hfn : Tryz.pinned.checked.prog.funcs[f]? = some fn) :
    true = Tryz.pinned.checked.prog.looks [] ∧ ∀ (j : Nat) t, fn.params[j]? = some t → Tryz.pinned.checked.prog.wantsStandIn t = false := by
  obtain rfl : f = 4 := Option.some.inj ((show Tryz.prog.funcNamed "linkwork/linkworklaw02.FractionValid" = some 4 by kernel_rfl).symm.trans hf) |>.symm
  obtain rfl : fn = Tryz.f4 := (Option.some.inj (Tryz.func4.symm.trans hfn)).symm
  refine ⟨by kernel_rfl, fun j t ht => ?_⟩
  rw [Tryz.params4] at ht
  have hm : t ∈ [24, 44, 47] := by
    have := Array.mem_of_getElem? ht
    simp at this ⊢
    first
      | exact this
      | exact .inl this
  have hall : ([24, 44, 47].all fun u => !Tryz.prog.wantsStandIn u) = true := by kernel_rfl
  exact (show Tryz.prog.wantsStandIn t = false by simpa using List.all_eq_true.1 hall t hm)
theorem valid_holds : Rows.FractionValidCardSaid :=
  Claim7.holds_tied_plain_at .later [] _ _ _ _ valid_said (fun _ h => by cases h) (by kernel_rfl) (fun _ h => by cases h) fractionValid_row_tie rfl ⟨rfl, rfl⟩ (by kernel_rfl) rfl valid_plain (by kernel_rfl)
end Go.Proofs.YtkpjhmpjihchpaaGreatDoor
