/- Part A4: lemmas and walks that the claim rests on. No claim is made here. -/
import Derived.Deep.RegionHeld3
import Derived.Deep.DrawnRows
import Derived.BigQuiet
import Derived.Deep.DeepCutAuto
import Derived.Test.YtmneloabphplmaaA3
set_option linter.unusedVariables false
/- Walks: the reference: the parts of a fraction, its sign. -/
namespace Go.Proofs.Ytmneloabphplmaa
open Go Go.RowKit Bn
attribute [local go_sem ↓] Go.wp_at_zero Go.wp_at_succ
theorem g_valid_e (w : World) (b : Bool) (A : Option Addr) (n c : Nat) (D : Option Addr) (m e : Nat) (a : RD) (k : Nat) (v : Bool) (h : QD w b A n c D m e a k) (hk : k ≤ 300000000) (hv : a.ok = v) :
    Calls Try.prog 47 #[.agg #[.bool b, .slice A n c, .slice D m e]] w (RetV w (.bool v)) := by subst hv; exact g_valid w b A n c D m e a k h hk
set_option maxRecDepth 100000 in
set_option maxHeartbeats 2000000 in
/-- linkworkref02.Parts -/
theorem g_parts_1 (w : World) (b : Bool) (A : Option Addr) (n c : Nat) (D : Option Addr) (m e : Nat) (a : RD) (k : Nat) (h : QD w b A n c D m e a k) (h0 : 0 < k) (hk : k ≤ 300000000) (ho : a.ok = false) :
    Calls Try.prog 71 #[.agg #[.bool b, .slice A n c, .slice D m e]] w (RetII w a.q.num a.q.den k) := by
  have HK := Lib.hid hk
  have HO := Lib.hid ho
  have hq : a.q.num = 0 ∧ (a.q.den : Int) = 1 := q_bad (.inl ho)
  rw [hq.1, hq.2]
  clear hq ho
  have HP := Lib.hid h0
  go_enter Try.func71, Try.ntmps71
  go_wp2_with fail
  (with_reducible refine (g_valid_e _ b A n c D m e a k false ?_ ?_ ?_).mono ?_); (exact h.belw (((((Below.refl _ _).alloc (Nat.le_refl _) _).alloc (by simp) _).alloc (by simp <;> omega) _))); (exact HK.out); (exact HO.out); rintro e w1 ⟨rfl, hb1⟩
  have q1 : Below w.heap.size w w1 := ((((Below.refl _ _).alloc (Nat.le_refl _) _).alloc (by simp) _).alloc (by simp <;> omega) _).trans (hb1.mono (by simp <;> omega))
  replace h := h.belw q1
  have x1_0 : Blk w1 (w.heap.size) 24 #[.bool b, .slice A n c, .slice D m e] := (((blkAt _ _ _ (by simp)).alloc _).alloc _).below hb1 (by simp <;> omega)
  have x1_1 : Blk w1 (w.heap.size + 1) 63 #[.bool false, .slice none 0 0] := ((blkAt _ _ _ (by simp)).alloc _).below hb1 (by simp <;> omega)
  have x1_2 : Blk w1 (w.heap.size + 1 + 1) 63 #[.bool false, .slice none 0 0] := (blkAt _ _ _ (by simp)).below hb1 (by simp)
  have bw1 : Below w.heap.size w w1 := (brefl w).trans (q1.mono (brefl w).size)
  have lw1 : w.heap.size + 3 ≤ w1.heap.size := by have := hb1.size; simp at this; omega
  clear hb1 q1
  have cx1_0_0 : w1.cell? ⟨w.heap.size, 0, none⟩ = some (.bool b) := x1_0.cell 0
  have cx1_0_1 : w1.cell? ⟨w.heap.size, 1, none⟩ = some (.slice A n c) := x1_0.cell 1
  have cx1_0_2 : w1.cell? ⟨w.heap.size, 2, none⟩ = some (.slice D m e) := x1_0.cell 2
  have lx1_0_0 : w.heap.size < w1.heap.size := by have := x1_0.lt; omega
  have lx1_0_1 : w.heap.size < w1.heap.size + 1 := by have := x1_0.lt; omega
  have lx1_0_2 : w.heap.size < w1.heap.size + 2 := by have := x1_0.lt; omega
  have lx1_0_3 : w.heap.size < w1.heap.size + 3 := by have := x1_0.lt; omega
  go_wp2_with fail
  (with_reducible refine (g_one _).mono ?_); rintro e w2 ⟨b2, A2, n2, c2, rfl, h2, hb2⟩
  clear cx1_0_0 cx1_0_1 cx1_0_2 lx1_0_0 lx1_0_1 lx1_0_2 lx1_0_3
  have q2 : Below w1.heap.size w1 w2 := hb2
  replace h := h.belw q2
  replace x1_0 : Blk w2 (w.heap.size) 24 #[.bool b, .slice A n c, .slice D m e] := x1_0.below q2 x1_0.lt
  replace x1_1 : Blk w2 (w.heap.size + 1) 63 #[.bool false, .slice none 0 0] := x1_1.below q2 x1_1.lt
  replace x1_2 : Blk w2 (w.heap.size + 1 + 1) 63 #[.bool false, .slice none 0 0] := x1_2.below q2 x1_2.lt
  have bw2 : Below w.heap.size w w2 := bw1.trans (q2.mono bw1.size)
  have lw2 : w1.heap.size ≤ w2.heap.size := q2.size
  clear hb2 q2 bw1
  have cx1_1_0 : w2.cell? ⟨w.heap.size + 1, 0, none⟩ = some (.bool false) := x1_1.cell 0
  have fx1_1_0 : w2.frozen? ⟨w.heap.size + 1, 0, none⟩ = false := x1_1.frozen 0
  have cx1_1_1 : w2.cell? ⟨w.heap.size + 1, 1, none⟩ = some (.slice none 0 0) := x1_1.cell 1
  have fx1_1_1 : w2.frozen? ⟨w.heap.size + 1, 1, none⟩ = false := x1_1.frozen 1
  have lx1_1_0 : w.heap.size + 1 < w2.heap.size := by have := x1_1.lt; omega
  have lx1_1_1 : w.heap.size < w2.heap.size := by have := x1_1.lt; omega
  have lx1_1_2 : w.heap.size < w2.heap.size + 1 := by have := x1_1.lt; omega
  have lx1_1_3 : w.heap.size < w2.heap.size + 2 := by have := x1_1.lt; omega
  have cx1_2_0 : w2.cell? ⟨w.heap.size + 1 + 1, 0, none⟩ = some (.bool false) := x1_2.cell 0
  have fx1_2_0 : w2.frozen? ⟨w.heap.size + 1 + 1, 0, none⟩ = false := x1_2.frozen 0
  have cx1_2_1 : w2.cell? ⟨w.heap.size + 1 + 1, 1, none⟩ = some (.slice none 0 0) := x1_2.cell 1
  have fx1_2_1 : w2.frozen? ⟨w.heap.size + 1 + 1, 1, none⟩ = false := x1_2.frozen 1
  have lx1_2_0 : w.heap.size + 2 < w2.heap.size := by have := x1_2.lt; omega
  have lx1_2_1 : w.heap.size + 1 < w2.heap.size := by have := x1_2.lt; omega
  have lx1_2_2 : w.heap.size < w2.heap.size := by have := x1_2.lt; omega
  have lx1_2_3 : w.heap.size < w2.heap.size + 1 := by have := x1_2.lt; omega
  go_wp2_with fail
  refine bodyPost_ret (v := .tuple #[.agg #[.bool false, .slice none 0 0], .agg #[.bool b2, .slice A2 n2 c2]]) (by simp [results, Try.results71, go_sem, *] <;> first | rfl | exact ⟨rfl, rfl⟩) rfl ?_
  exact ⟨false, none, 0, 0, b2, A2, n2, c2, rfl, IV.zero _ _, (h2.keep (((((Kp.refl w2).setB (p := ⟨w.heap.size + 1, 0, none⟩) x1_1.box (by decide) (.bool false)).setB (p := ⟨w.heap.size + 1, 1, none⟩) (x1_1.box.set ⟨w.heap.size + 1, 0, none⟩ (.bool false)) (by decide) (.slice none 0 0)).setB (p := ⟨w.heap.size + 1 + 1, 0, none⟩) ((x1_2.box.set ⟨w.heap.size + 1, 0, none⟩ (.bool false)).set ⟨w.heap.size + 1, 1, none⟩ (.slice none 0 0)) (by decide) (.bool b2)).setB (p := ⟨w.heap.size + 1 + 1, 1, none⟩) (((x1_2.box.set ⟨w.heap.size + 1, 0, none⟩ (.bool false)).set ⟨w.heap.size + 1, 1, none⟩ (.slice none 0 0)).set ⟨w.heap.size + 1 + 1, 0, none⟩ (.bool b2)) (by decide) (.slice A2 n2 c2))).mono (by first | exact HP.out | omega), ((((bw2.setCell (p := ⟨w.heap.size + 1, 0, none⟩) (by dsimp only; omega) (.bool false)).setCell (p := ⟨w.heap.size + 1, 1, none⟩) (by dsimp only; omega) (.slice none 0 0)).setCell (p := ⟨w.heap.size + 1 + 1, 0, none⟩) (by dsimp only; omega) (.bool b2)).setCell (p := ⟨w.heap.size + 1 + 1, 1, none⟩) (by dsimp only; omega) (.slice A2 n2 c2))⟩
set_option maxRecDepth 100000 in
set_option maxHeartbeats 2000000 in
/-- linkworkref02.Parts -/
theorem g_parts_2 (w : World) (b : Bool) (A : Option Addr) (n c : Nat) (D : Option Addr) (m e : Nat) (a : RD) (k : Nat) (h : QD w b A n c D m e a k) (h0 : 0 < k) (hk : k ≤ 300000000) (ho : a.ok = true) (hn : n = 0) :
    Calls Try.prog 71 #[.agg #[.bool b, .slice A n c, .slice D m e]] w (RetII w a.q.num a.q.den k) := by
  have HK := Lib.hid hk
  have HO := Lib.hid ho
  have hq : a.q.num = 0 ∧ (a.q.den : Int) = 1 := q_bad (.inr (List.eq_nil_of_length_eq_zero (by rw [← h.2.1.2.1, hn])))
  rw [hq.1, hq.2]
  clear hq ho
  subst hn
  have HP := Lib.hid h0
  go_enter Try.func71, Try.ntmps71
  go_wp2_with fail
  (with_reducible refine (g_valid_e _ b A 0 c D m e a k true ?_ ?_ ?_).mono ?_); (exact h.belw (((((Below.refl _ _).alloc (Nat.le_refl _) _).alloc (by simp) _).alloc (by simp <;> omega) _))); (exact HK.out); (exact HO.out); rintro e w1 ⟨rfl, hb1⟩
  have q1 : Below w.heap.size w w1 := ((((Below.refl _ _).alloc (Nat.le_refl _) _).alloc (by simp) _).alloc (by simp <;> omega) _).trans (hb1.mono (by simp <;> omega))
  replace h := h.belw q1
  have x1_0 : Blk w1 (w.heap.size) 24 #[.bool b, .slice A 0 c, .slice D m e] := (((blkAt _ _ _ (by simp)).alloc _).alloc _).below hb1 (by simp <;> omega)
  have x1_1 : Blk w1 (w.heap.size + 1) 63 #[.bool false, .slice none 0 0] := ((blkAt _ _ _ (by simp)).alloc _).below hb1 (by simp <;> omega)
  have x1_2 : Blk w1 (w.heap.size + 1 + 1) 63 #[.bool false, .slice none 0 0] := (blkAt _ _ _ (by simp)).below hb1 (by simp)
  have bw1 : Below w.heap.size w w1 := (brefl w).trans (q1.mono (brefl w).size)
  have lw1 : w.heap.size + 3 ≤ w1.heap.size := by have := hb1.size; simp at this; omega
  clear hb1 q1
  have cx1_0_0 : w1.cell? ⟨w.heap.size, 0, none⟩ = some (.bool b) := x1_0.cell 0
  have cx1_0_1 : w1.cell? ⟨w.heap.size, 1, none⟩ = some (.slice A 0 c) := x1_0.cell 1
  have cx1_0_2 : w1.cell? ⟨w.heap.size, 2, none⟩ = some (.slice D m e) := x1_0.cell 2
  have lx1_0_0 : w.heap.size < w1.heap.size := by have := x1_0.lt; omega
  have lx1_0_1 : w.heap.size < w1.heap.size + 1 := by have := x1_0.lt; omega
  have lx1_0_2 : w.heap.size < w1.heap.size + 2 := by have := x1_0.lt; omega
  have lx1_0_3 : w.heap.size < w1.heap.size + 3 := by have := x1_0.lt; omega
  go_wp2_with fail
  (with_reducible refine (g_one _).mono ?_); rintro e w2 ⟨b2, A2, n2, c2, rfl, h2, hb2⟩
  clear cx1_0_0 cx1_0_1 cx1_0_2 lx1_0_0 lx1_0_1 lx1_0_2 lx1_0_3
  have q2 : Below w1.heap.size w1 w2 := hb2
  replace h := h.belw q2
  replace x1_0 : Blk w2 (w.heap.size) 24 #[.bool b, .slice A 0 c, .slice D m e] := x1_0.below q2 x1_0.lt
  replace x1_1 : Blk w2 (w.heap.size + 1) 63 #[.bool false, .slice none 0 0] := x1_1.below q2 x1_1.lt
  replace x1_2 : Blk w2 (w.heap.size + 1 + 1) 63 #[.bool false, .slice none 0 0] := x1_2.below q2 x1_2.lt
  have bw2 : Below w.heap.size w w2 := bw1.trans (q2.mono bw1.size)
  have lw2 : w1.heap.size ≤ w2.heap.size := q2.size
  clear hb2 q2 bw1
  have cx1_1_0 : w2.cell? ⟨w.heap.size + 1, 0, none⟩ = some (.bool false) := x1_1.cell 0
  have fx1_1_0 : w2.frozen? ⟨w.heap.size + 1, 0, none⟩ = false := x1_1.frozen 0
  have cx1_1_1 : w2.cell? ⟨w.heap.size + 1, 1, none⟩ = some (.slice none 0 0) := x1_1.cell 1
  have fx1_1_1 : w2.frozen? ⟨w.heap.size + 1, 1, none⟩ = false := x1_1.frozen 1
  have lx1_1_0 : w.heap.size + 1 < w2.heap.size := by have := x1_1.lt; omega
  have lx1_1_1 : w.heap.size < w2.heap.size := by have := x1_1.lt; omega
  have lx1_1_2 : w.heap.size < w2.heap.size + 1 := by have := x1_1.lt; omega
  have lx1_1_3 : w.heap.size < w2.heap.size + 2 := by have := x1_1.lt; omega
  have cx1_2_0 : w2.cell? ⟨w.heap.size + 1 + 1, 0, none⟩ = some (.bool false) := x1_2.cell 0
  have fx1_2_0 : w2.frozen? ⟨w.heap.size + 1 + 1, 0, none⟩ = false := x1_2.frozen 0
  have cx1_2_1 : w2.cell? ⟨w.heap.size + 1 + 1, 1, none⟩ = some (.slice none 0 0) := x1_2.cell 1
  have fx1_2_1 : w2.frozen? ⟨w.heap.size + 1 + 1, 1, none⟩ = false := x1_2.frozen 1
  have lx1_2_0 : w.heap.size + 2 < w2.heap.size := by have := x1_2.lt; omega
  have lx1_2_1 : w.heap.size + 1 < w2.heap.size := by have := x1_2.lt; omega
  have lx1_2_2 : w.heap.size < w2.heap.size := by have := x1_2.lt; omega
  have lx1_2_3 : w.heap.size < w2.heap.size + 1 := by have := x1_2.lt; omega
  go_wp2_with fail
  refine bodyPost_ret (v := .tuple #[.agg #[.bool false, .slice none 0 0], .agg #[.bool b2, .slice A2 n2 c2]]) (by simp [results, Try.results71, go_sem, *] <;> first | rfl | exact ⟨rfl, rfl⟩) rfl ?_
  exact ⟨false, none, 0, 0, b2, A2, n2, c2, rfl, IV.zero _ _, (h2.keep (((((Kp.refl w2).setB (p := ⟨w.heap.size + 1, 0, none⟩) x1_1.box (by decide) (.bool false)).setB (p := ⟨w.heap.size + 1, 1, none⟩) (x1_1.box.set ⟨w.heap.size + 1, 0, none⟩ (.bool false)) (by decide) (.slice none 0 0)).setB (p := ⟨w.heap.size + 1 + 1, 0, none⟩) ((x1_2.box.set ⟨w.heap.size + 1, 0, none⟩ (.bool false)).set ⟨w.heap.size + 1, 1, none⟩ (.slice none 0 0)) (by decide) (.bool b2)).setB (p := ⟨w.heap.size + 1 + 1, 1, none⟩) (((x1_2.box.set ⟨w.heap.size + 1, 0, none⟩ (.bool false)).set ⟨w.heap.size + 1, 1, none⟩ (.slice none 0 0)).set ⟨w.heap.size + 1 + 1, 0, none⟩ (.bool b2)) (by decide) (.slice A2 n2 c2))).mono (by first | exact HP.out | omega), ((((bw2.setCell (p := ⟨w.heap.size + 1, 0, none⟩) (by dsimp only; omega) (.bool false)).setCell (p := ⟨w.heap.size + 1, 1, none⟩) (by dsimp only; omega) (.slice none 0 0)).setCell (p := ⟨w.heap.size + 1 + 1, 0, none⟩) (by dsimp only; omega) (.bool b2)).setCell (p := ⟨w.heap.size + 1 + 1, 1, none⟩) (by dsimp only; omega) (.slice A2 n2 c2))⟩
set_option maxRecDepth 100000 in
set_option maxHeartbeats 4000000 in
/-- linkworkref02.Parts -/
theorem g_parts_3 (w : World) (b : Bool) (A : Option Addr) (n c : Nat) (D : Option Addr) (m e : Nat) (a : RD) (k : Nat) (h : QD w b A n c D m e a k) (h0 : 0 < k) (hk : k ≤ 300000000) (ho : a.ok = true) (hn : a.num ≠ []) :
    Calls Try.prog 71 #[.agg #[.bool b, .slice A n c, .slice D m e]] w (RetII w a.q.num a.q.den k) := by
  have HK := Lib.hid hk
  have HO := Lib.hid ho
  obtain ⟨e1, e2, e3⟩ := q_ok h.2.1.1 h.2.2.1.1 ho hn
  have HE := Lib.hid (And.intro e1 (And.intro e2 e3))
  have hnp : 0 < n := by rcases Nat.eq_zero_or_pos n with h1 | h1; exact absurd (List.eq_nil_of_length_eq_zero (by rw [← h.2.1.2.1, h1])) hn; exact h1
  have en : ((n : Int) == 0) = false := by simp; omega
  clear ho hn e1 e2 e3 hk
  go_enter Try.func71, Try.ntmps71
  go_wp2_with fail
  (with_reducible refine (g_valid_e _ b A n c D m e a k true ?_ ?_ ?_).mono ?_); (exact h.belw (((((Below.refl _ _).alloc (Nat.le_refl _) _).alloc (by simp) _).alloc (by simp <;> omega) _))); (exact HK.out); (exact HO.out); rintro e w1 ⟨rfl, hb1⟩
  have q1 : Below w.heap.size w w1 := ((((Below.refl _ _).alloc (Nat.le_refl _) _).alloc (by simp) _).alloc (by simp <;> omega) _).trans (hb1.mono (by simp <;> omega))
  replace h := h.belw q1
  have x1_0 : Blk w1 (w.heap.size) 24 #[.bool b, .slice A n c, .slice D m e] := (((blkAt _ _ _ (by simp)).alloc _).alloc _).below hb1 (by simp <;> omega)
  have x1_1 : Blk w1 (w.heap.size + 1) 63 #[.bool false, .slice none 0 0] := ((blkAt _ _ _ (by simp)).alloc _).below hb1 (by simp <;> omega)
  have x1_2 : Blk w1 (w.heap.size + 1 + 1) 63 #[.bool false, .slice none 0 0] := (blkAt _ _ _ (by simp)).below hb1 (by simp)
  have bw1 : Below w.heap.size w w1 := (brefl w).trans (q1.mono (brefl w).size)
  have lw1 : w.heap.size + 3 ≤ w1.heap.size := by have := hb1.size; simp at this; omega
  clear hb1 q1
  have cx1_0_0 : w1.cell? ⟨w.heap.size, 0, none⟩ = some (.bool b) := x1_0.cell 0
  have cx1_0_1 : w1.cell? ⟨w.heap.size, 1, none⟩ = some (.slice A n c) := x1_0.cell 1
  have cx1_0_2 : w1.cell? ⟨w.heap.size, 2, none⟩ = some (.slice D m e) := x1_0.cell 2
  have lx1_0_0 : w.heap.size < w1.heap.size := by have := x1_0.lt; omega
  have lx1_0_1 : w.heap.size < w1.heap.size + 1 := by have := x1_0.lt; omega
  have lx1_0_2 : w.heap.size < w1.heap.size + 2 := by have := x1_0.lt; omega
  have lx1_0_3 : w.heap.size < w1.heap.size + 3 := by have := x1_0.lt; omega
  go_wp2_with fail
  refine wp_region_lin (B := w.heap.size) (fr := fun xf => ⟨List.toArray (.agg #[.bool b, .slice A n c, .slice D m e] :: .pointer (some ⟨w.heap.size, 0, none⟩) :: .pointer (some ⟨w.heap.size + 1, 0, none⟩) :: .pointer (some ⟨w.heap.size + 1 + 1, 0, none⟩) :: .agg #[.bool b, .slice A n c, .slice D m e] :: .bool true :: .bool false :: .bool false :: .pointer (some ⟨w.heap.size, 1, none⟩) :: .slice A n c :: .int .i64 n :: .bool false :: .bool false :: undef :: undef :: xf 0 :: xf 1 :: xf 2 :: xf 3 :: xf 4 :: xf 5 :: xf 6 :: xf 7 :: []), []⟩) (R := fun i => List.getD ((PEq (.pointer (some ⟨w.heap.size, 0, none⟩))) :: (PEq (.bool b)) :: (PEq (.pointer (some ⟨w.heap.size, 1, none⟩))) :: (PEq (.slice A n c)) :: (PEq (.agg #[.bool b, .slice A n c])) :: (PEq (.pointer (some ⟨w.heap.size, 2, none⟩))) :: (PEq (.slice D m e)) :: (PEq (.agg #[.bool false, .slice D m e])) :: PAny :: PAny :: []) i (fun _ _ => True)) (es := []) (ow := [⟨w.heap.size, 10, 0, 24, #[.bool b, .slice A n c, .slice D m e], CAny⟩, ⟨w.heap.size + 1, 8, 0, 63, #[.bool false, .slice none 0 0], fun cz _ => cz = #[.bool b, .slice A n c]⟩, ⟨w.heap.size + 1 + 1, 9, 0, 63, #[.bool false, .slice none 0 0], fun cz _ => cz = #[.bool false, .slice D m e]⟩]) (x0 := (fun _ => undef)) (by kernel_rfl)
    (each_of ⟨fun _ _ => rfl, fun _ _ => rfl, fun _ _ => rfl, fun _ _ => rfl, fun _ _ => rfl, fun _ _ => rfl, fun _ _ => rfl, fun _ _ => rfl, fun _ _ => rfl, fun _ _ => rfl, trivial⟩) (each_of (acyc_from _ 0 (by kernel_rfl))) (AllStab.get _ ⟨stEq _, stEq _, stEq _, stEq _, stEq _, stEq _, stEq _, stEq _, stAny, stAny, trivial⟩)
    (fun _ h => nomatch h) (List.forall_mem_cons.2 ⟨scAny, List.forall_mem_cons.2 ⟨fun _ _ _ h _ => h, List.forall_mem_cons.2 ⟨fun _ _ _ h _ => h, fun _ h => nomatch h⟩⟩⟩) (fun _ h => nomatch h) bw1.size
    (List.forall_mem_cons.2 ⟨⟨x1_0, by show w.heap.size ≤ w.heap.size; omega⟩, List.forall_mem_cons.2 ⟨⟨x1_1, by show w.heap.size ≤ w.heap.size + 1; omega⟩, List.forall_mem_cons.2 ⟨⟨x1_2, by show w.heap.size ≤ w.heap.size + 1 + 1; omega⟩, fun _ h => nomatch h⟩⟩⟩) (ownDist (by simp <;> omega))
    (each_of ⟨?_, ?_, ?_, ?_, ?_, ?_, ?_, ?_, ?_, ?_, trivial⟩) ?_
  · exact .inl ⟨by simp, by simp, fun xf wq hk hbl hd K hK => by
      (try dsimp only)
      go_simp
      exact hK.out (.pointer (some ⟨w.heap.size, 0, none⟩)) _ rfl (brefl _)⟩
  · exact .inl ⟨by simp, by simp, fun xf wq hk hbl hd K hK => by
      have d0 : xf 0 = .pointer (some ⟨w.heap.size, 0, none⟩) := hd ⟨0, .data⟩ (by simp) rfl
      have y : Blk wq (w.heap.size) 24 #[.bool b, .slice A n c, .slice D m e] := hbl _ (List.Mem.head _) (by simp [Region.binds])
      have hcl0 : wq.cell? ⟨w.heap.size, 0, none⟩ = some (.bool b) := y.cell 0
      have hcl1 : wq.cell? ⟨w.heap.size, 1, none⟩ = some (.slice A n c) := y.cell 1
      have hcl2 : wq.cell? ⟨w.heap.size, 2, none⟩ = some (.slice D m e) := y.cell 2
      (try dsimp only); (try simp only [d0])
      go_simp
      have hz := hK.out (.bool b) _ rfl (brefl _)
      simp only [d0] at hz
      exact hz⟩
  · exact .inl ⟨by simp, by simp, fun xf wq hk hbl hd K hK => by
      (try dsimp only)
      go_simp
      exact hK.out (.pointer (some ⟨w.heap.size, 1, none⟩)) _ rfl (brefl _)⟩
  · exact .inl ⟨by simp, by simp, fun xf wq hk hbl hd K hK => by
      have d2 : xf 2 = .pointer (some ⟨w.heap.size, 1, none⟩) := hd ⟨2, .data⟩ (by simp) rfl
      have y : Blk wq (w.heap.size) 24 #[.bool b, .slice A n c, .slice D m e] := hbl _ (List.Mem.head _) (by simp [Region.binds])
      have hcl0 : wq.cell? ⟨w.heap.size, 0, none⟩ = some (.bool b) := y.cell 0
      have hcl1 : wq.cell? ⟨w.heap.size, 1, none⟩ = some (.slice A n c) := y.cell 1
      have hcl2 : wq.cell? ⟨w.heap.size, 2, none⟩ = some (.slice D m e) := y.cell 2
      (try dsimp only); (try simp only [d2])
      go_simp
      have hz := hK.out (.slice A n c) _ rfl (brefl _)
      simp only [d2] at hz
      exact hz⟩
  · exact .inl ⟨by simp, by simp, fun xf wq hk hbl hd K hK => by
      have d1 : xf 1 = .bool b := hd ⟨1, .data⟩ (by simp) rfl
      have d3 : xf 3 = .slice A n c := hd ⟨3, .data⟩ (by simp) rfl
      (try dsimp only); (try simp only [d1, d3])
      go_simp
      have hz := hK.out (.agg #[.bool b, .slice A n c]) _ rfl (brefl _)
      simp only [d1, d3] at hz
      exact hz⟩
  · exact .inl ⟨by simp, by simp, fun xf wq hk hbl hd K hK => by
      (try dsimp only)
      go_simp
      exact hK.out (.pointer (some ⟨w.heap.size, 2, none⟩)) _ rfl (brefl _)⟩
  · exact .inl ⟨by simp, by simp, fun xf wq hk hbl hd K hK => by
      have d5 : xf 5 = .pointer (some ⟨w.heap.size, 2, none⟩) := hd ⟨5, .data⟩ (by simp) rfl
      have y : Blk wq (w.heap.size) 24 #[.bool b, .slice A n c, .slice D m e] := hbl _ (List.Mem.head _) (by simp [Region.binds])
      have hcl0 : wq.cell? ⟨w.heap.size, 0, none⟩ = some (.bool b) := y.cell 0
      have hcl1 : wq.cell? ⟨w.heap.size, 1, none⟩ = some (.slice A n c) := y.cell 1
      have hcl2 : wq.cell? ⟨w.heap.size, 2, none⟩ = some (.slice D m e) := y.cell 2
      (try dsimp only); (try simp only [d5])
      go_simp
      have hz := hK.out (.slice D m e) _ rfl (brefl _)
      simp only [d5] at hz
      exact hz⟩
  · exact .inl ⟨by simp, by simp, fun xf wq hk hbl hd K hK => by
      have d6 : xf 6 = .slice D m e := hd ⟨6, .data⟩ (by simp) rfl
      (try dsimp only); (try simp only [d6])
      go_simp
      have hz := hK.out (.agg #[.bool false, .slice D m e]) _ rfl (brefl _)
      simp only [d6] at hz
      exact hz⟩
  · exact .inr (.inr (.inr ⟨⟨w.heap.size + 1, 8, 0, 63, #[.bool false, .slice none 0 0], fun cz _ => cz = #[.bool b, .slice A n c]⟩, by simp, rfl, by simp, by simp, (show KT 63 = false by decide), fun _ _ => True.intro, fun xf wq hblk hd => by
      have d4 : xf 4 = .agg #[.bool b, .slice A n c] := hd ⟨4, .data⟩ (by simp) rfl
      dsimp only at hblk
      refine ⟨[.bool b, .slice A n c], fun w' hk => rfl, fun K hK => ?_⟩
      have hc0 : wq.cell? ⟨w.heap.size + 1, 0, none⟩ = some (.bool false) := hblk.cell 0
      have hc1 : wq.cell? ⟨w.heap.size + 1, 1, none⟩ = some (.slice none 0 0) := hblk.cell 1
      have hf0 : wq.frozen? ⟨w.heap.size + 1, 0, none⟩ = false := hblk.frozen 0
      have hf1 : wq.frozen? ⟨w.heap.size + 1, 1, none⟩ = false := hblk.frozen 1
      (try dsimp only)
      simp only [d4]
      go_simp
      have hz := hK.out undef
      simp only [d4] at hz
      exact hz⟩))
  · exact .inr (.inr (.inr ⟨⟨w.heap.size + 1 + 1, 9, 0, 63, #[.bool false, .slice none 0 0], fun cz _ => cz = #[.bool false, .slice D m e]⟩, by simp, rfl, by simp, by simp, (show KT 63 = false by decide), fun _ _ => True.intro, fun xf wq hblk hd => by
      have d7 : xf 7 = .agg #[.bool false, .slice D m e] := hd ⟨7, .data⟩ (by simp) rfl
      dsimp only at hblk
      refine ⟨[.bool false, .slice D m e], fun w' hk => rfl, fun K hK => ?_⟩
      have hc0 : wq.cell? ⟨w.heap.size + 1 + 1, 0, none⟩ = some (.bool false) := hblk.cell 0
      have hc1 : wq.cell? ⟨w.heap.size + 1 + 1, 1, none⟩ = some (.slice none 0 0) := hblk.cell 1
      have hf0 : wq.frozen? ⟨w.heap.size + 1 + 1, 0, none⟩ = false := hblk.frozen 0
      have hf1 : wq.frozen? ⟨w.heap.size + 1 + 1, 1, none⟩ = false := hblk.frozen 1
      (try dsimp only)
      simp only [d7]
      go_simp
      have hz := hK.out undef
      simp only [d7] at hz
      exact hz⟩))
  clear cx1_0_0 cx1_0_1 cx1_0_2 lx1_0_0 lx1_0_1 lx1_0_2 lx1_0_3
  intro y2 w2 kq2 hbl2 lw2 how hrr hfl hds
  replace h := h.keep kq2
  obtain ⟨_, z2_0, ez, _⟩ := how _ (List.Mem.head _)
  obtain rfl := ez (by simp)
  dsimp only at z2_0
  obtain ⟨_, z2_1, _, ez⟩ := how _ (List.Mem.tail _ (List.Mem.head _))
  obtain rfl := ez (by simp)
  dsimp only at z2_1
  obtain ⟨_, z2_2, _, ez⟩ := how _ (List.Mem.tail _ (List.Mem.tail _ (List.Mem.head _)))
  obtain rfl := ez (by simp)
  dsimp only at z2_2
  (try dsimp only)
  clear hrr hfl how hds 
  clear x1_0 x1_1 x1_2
  have bw2 : Below w.heap.size w w2 := bw1.trans hbl2
  clear bw1
  have cz2_1_0 : w2.cell? ⟨w.heap.size + 1, 0, none⟩ = some (.bool b) := z2_1.cell 0
  have cz2_1_1 : w2.cell? ⟨w.heap.size + 1, 1, none⟩ = some (.slice A n c) := z2_1.cell 1
  have lz2_1_0 : w.heap.size + 1 < w2.heap.size := by have := z2_1.lt; omega
  have lz2_1_1 : w.heap.size < w2.heap.size := by have := z2_1.lt; omega
  have lz2_1_2 : w.heap.size < w2.heap.size + 1 := by have := z2_1.lt; omega
  have lz2_1_3 : w.heap.size < w2.heap.size + 2 := by have := z2_1.lt; omega
  have cz2_2_0 : w2.cell? ⟨w.heap.size + 1 + 1, 0, none⟩ = some (.bool false) := z2_2.cell 0
  have cz2_2_1 : w2.cell? ⟨w.heap.size + 1 + 1, 1, none⟩ = some (.slice D m e) := z2_2.cell 1
  have lz2_2_0 : w.heap.size + 2 < w2.heap.size := by have := z2_2.lt; omega
  have lz2_2_1 : w.heap.size + 1 < w2.heap.size := by have := z2_2.lt; omega
  have lz2_2_2 : w.heap.size < w2.heap.size := by have := z2_2.lt; omega
  have lz2_2_3 : w.heap.size < w2.heap.size + 1 := by have := z2_2.lt; omega
  go_wp2_with fail
  refine bodyPost_ret (v := .tuple #[.agg #[.bool b, .slice A n c], .agg #[.bool false, .slice D m e]]) (by simp [results, Try.results71, go_sem, *] <;> first | rfl | exact ⟨rfl, rfl⟩) rfl ?_
  have kp := (Kp.refl w2)
  exact ⟨b, A, n, c, false, D, m, e, rfl, ⟨h.1.symm.trans HE.out.2.1, HE.out.1 ▸ h.2.1.keep kp, h.2.2.2.1⟩, ⟨by simp [wh], HE.out.2.2 ▸ h.2.2.1.keep kp, h.2.2.2.2⟩, bw2⟩
theorem g_parts (w : World) (b : Bool) (A : Option Addr) (n c : Nat) (D : Option Addr) (m e : Nat) (q : Rat) (k : Nat) (h : QZ w b A n c D m e q k) (h0 : 0 < k) (hk : k ≤ 300000000) :
    Calls Try.prog 71 #[.agg #[.bool b, .slice A n c, .slice D m e]] w (RetII w q.num q.den k) := by
  obtain ⟨a, h, rfl⟩ := h
  cases ho : a.ok
  · exact g_parts_1 w b A n c D m e a k h h0 hk ho
  · by_cases hn : n = 0
    · exact g_parts_2 w b A n c D m e a k h h0 hk ho hn
    · exact g_parts_3 w b A n c D m e a k h h0 hk ho (h.num_ne (by omega))
set_option maxRecDepth 100000 in
set_option maxHeartbeats 2000000 in
/-- linkworkref02.Sign -/
theorem g_sign (w : World) (b : Bool) (A : Option Addr) (n c : Nat) (D : Option Addr) (m e : Nat) (q : Rat) (k : Nat) (h : QZ w b A n c D m e q k) (h0 : 0 < k) (hk : k ≤ 40000000) :
    Calls Try.prog 48 #[.agg #[.bool b, .slice A n c, .slice D m e]] w (RetV w (.int .i64 q.num.sign)) := by
  go_enter Try.func48, Try.ntmps48
  go_wp2_with fail
  (with_reducible refine (g_parts _ b A n c D m e (q) (k) ?_ ?_ ?_).mono ?_); (exact (h.belw ((Below.refl _ _).alloc (Nat.le_refl _) _))); (first | omega | decide | assumption); (first | omega | decide | assumption); rintro e w1 ⟨b1, A1, n1, c1, b'1, A'1, n'1, c'1, rfl, h1, h'1, hb1⟩
  have q1 : Below w.heap.size w w1 := ((Below.refl _ _).alloc (Nat.le_refl _) _).trans (hb1.mono (by simp))
  replace h := h.belw q1
  have x1_0 : Blk w1 (w.heap.size) 24 #[.bool b, .slice A n c, .slice D m e] := (blkAt _ _ _ (by simp)).below hb1 (by simp)
  have bw1 : Below w.heap.size w w1 := (brefl w).trans (q1.mono (brefl w).size)
  have lw1 : w.heap.size + 1 ≤ w1.heap.size := by have := hb1.size; simp at this; omega
  clear hb1 q1
  go_wp2_with fail
  (with_reducible refine (r01_sign _ b1 A1 n1 c1 ((q).num) ((k)) ?_ ?_).mono ?_); (exact (h1.belw (((Below.refl _ _).alloc (Nat.le_refl _) _).alloc (by simp) _)).iz); (first | omega | decide | assumption); rintro e w2 ⟨rfl, hb2⟩
  have q2 : Below w1.heap.size w1 w2 := (((Below.refl _ _).alloc (Nat.le_refl _) _).alloc (by simp) _).trans (hb2.mono (by simp <;> omega))
  replace h := h.belw q2
  replace h1 := h1.belw q2
  replace h'1 := h'1.belw q2
  replace x1_0 : Blk w2 (w.heap.size) 24 #[.bool b, .slice A n c, .slice D m e] := x1_0.below q2 x1_0.lt
  have x2_0 : Blk w2 (w1.heap.size) 63 #[.bool b1, .slice A1 n1 c1] := ((blkAt _ _ _ (by simp)).alloc _).below hb2 (by simp <;> omega)
  have x2_1 : Blk w2 (w1.heap.size + 1) 63 #[.bool b'1, .slice A'1 n'1 c'1] := (blkAt _ _ _ (by simp)).below hb2 (by simp)
  have bw2 : Below w.heap.size w w2 := bw1.trans (q2.mono bw1.size)
  have lw2 : w1.heap.size + 2 ≤ w2.heap.size := by have := hb2.size; simp at this; omega
  clear hb2 q2 bw1
  go_wp2_with fail
  go_ret
  exact retI rfl bw2
end Go.Proofs.Ytmneloabphplmaa

/- Division bit by bit: plain numbers. -/
namespace Bn
/-- A word of a list is a digit of its value. -/
theorem wd_val {l : List Nat} (h : Wds l) (j : Nat) : wd l j = val l / 4294967296 ^ j % 4294967296 := by
  have e := Sm_ge l (show l.length ≤ j + (l.length + 1) by omega)
  have h1 : Sm (wd l) j < 4294967296 ^ j := Sm_lt (fun i _ => wd_lt h i)
  rw [Sm_add, Sm_shift] at e
  simp only [Nat.add_zero] at e
  generalize Sm (fun i => wd l (j + (i + 1))) l.length = X at e
  rw [← e, Nat.add_mul_div_left _ _ (pow_pos' j), Nat.div_eq_of_lt h1, Nat.zero_add, Nat.add_mul_mod_self_left]
  exact (Nat.mod_eq_of_lt (wd_lt h j)).symm
theorem pow_split (i : Nat) : 4294967296 ^ (i / 32) * 2 ^ (i % 32) = 2 ^ i := by
  have : (4294967296 : Nat) ^ (i / 32) = 2 ^ (32 * (i / 32)) := by rw [Nat.pow_mul]
  rw [this, ← Nat.pow_add, Nat.div_add_mod]
theorem wd_bit {l : List Nat} (h : Wds l) (i : Nat) : wd l (i / 32) / 2 ^ (i % 32) % 2 = val l / 2 ^ i % 2 := by
  rw [wd_val h, ← pow_split i, ← Nat.div_div_eq_div_mul]
  generalize val l / 4294967296 ^ (i / 32) = x
  have hs : i % 32 < 32 := Nat.mod_lt _ (by decide)
  generalize i % 32 = s at *
  have h1 := Nat.testBit_mod_two_pow x 32 s
  simp only [hs, decide_true, Bool.true_and, Nat.testBit_eq_decide_div_mod_eq] at h1
  have h2 : (x % 2 ^ 32 / 2 ^ s % 2 = 1) ↔ (x / 2 ^ s % 2 = 1) := by simpa using h1
  have e : (2 : Nat) ^ 32 = 4294967296 := by decide
  rw [e] at h2
  omega
theorem val_set (L : List Nat) (j x : Nat) (h : j < L.length) : val (L.set j x) + wd L j * 4294967296 ^ j = val L + x * 4294967296 ^ j := by
  have := Sm_set_mid L j x L.length h h
  rw [Sm_ge (L.set j x) (by simp), Sm_ge L (Nat.le_refl _)] at this
  exact this
theorem or_pow {x s : Nat} (hx : x % 2 ^ (s + 1) = 0) : x ||| 2 ^ s = x + 2 ^ s := by
  have h := Nat.shiftLeft_add_eq_or_of_lt (b := 2 ^ s) (i := s + 1) (Nat.pow_lt_pow_right (by omega) (by omega)) (x / 2 ^ (s + 1))
  rw [Nat.shiftLeft_eq, Nat.div_mul_cancel (Nat.dvd_of_mod_eq_zero hx)] at h
  exact h.symm
/-- A bit below all others is set. -/
theorem or_bit {L : List Nat} (h : Wds L) (i : Nat) (hi : i / 32 < L.length) {m : Nat} (hv : val L = m * 2 ^ (i + 1)) :
    wd L (i / 32) ||| 2 ^ (i % 32) = wd L (i / 32) + 2 ^ (i % 32) ∧ wd L (i / 32) + 2 ^ (i % 32) < 4294967296 ∧ val (L.set (i / 32) (wd L (i / 32) + 2 ^ (i % 32))) = val L + 2 ^ i := by
  have hs : i % 32 < 32 := Nat.mod_lt _ (by decide)
  have hx : wd L (i / 32) % 2 ^ (i % 32 + 1) = 0 := by
    rw [wd_val h, hv, Nat.pow_succ, ← pow_split i]
    have e1 : m * (4294967296 ^ (i / 32) * 2 ^ (i % 32) * 2) = 4294967296 ^ (i / 32) * (m * 2 ^ (i % 32 + 1)) := by rw [Nat.pow_succ]; grind
    rw [e1, Nat.mul_div_cancel_left _ (pow_pos' _)]
    have e2 : (4294967296 : Nat) = 2 ^ (i % 32 + 1) * 2 ^ (31 - i % 32) := by rw [← Nat.pow_add, show i % 32 + 1 + (31 - i % 32) = 32 by omega]
    rw [e2, Nat.mod_mul_right_mod, Nat.mul_mod_left]
  refine ⟨or_pow hx, ?_, ?_⟩
  · have h1 : wd L (i / 32) ||| 2 ^ (i % 32) < 2 ^ 32 := Nat.or_lt_two_pow (wd_lt h _) (Nat.pow_lt_pow_right (by omega) hs)
    rw [or_pow hx] at h1; exact h1
  · have h1 := val_set L (i / 32) (wd L (i / 32) + 2 ^ (i % 32)) hi
    rw [Nat.add_mul, Nat.mul_comm (2 ^ (i % 32)), pow_split] at h1
    omega
theorem bit_high (a k : Nat) : a / 2 ^ k = 2 * (a / 2 ^ (k + 1)) + a / 2 ^ k % 2 := by
  rw [Nat.pow_succ, ← Nat.div_div_eq_div_mul]; omega
/-- One bit of a division: the divisor goes in. -/
theorem bit_in {a v k r : Nat} (hr : r = 2 * (a / 2 ^ (k + 1) % v) + a / 2 ^ k % 2) (h : v ≤ r) (hv : 0 < v) :
    a / 2 ^ k / v = 2 * (a / 2 ^ (k + 1) / v) + 1 ∧ a / 2 ^ k % v = r - v := by
  have e := bit_high a k
  generalize a / 2 ^ (k + 1) = hi at *
  generalize hb : a / 2 ^ k % 2 = b at *
  have hb1 : b ≤ 1 := by omega
  rw [e]
  have hm := Nat.mod_lt hi hv
  have hd := Nat.div_add_mod hi v
  have e2 : 2 * hi + b = v * (2 * (hi / v) + 1) + (r - v) := by
    rw [Nat.mul_add, Nat.mul_one]
    have : v * (2 * (hi / v)) = 2 * (v * (hi / v)) := by grind
    omega
  have hlt : r - v < v := by omega
  rw [e2]
  constructor
  · rw [Nat.mul_add_div hv, Nat.div_eq_of_lt hlt, Nat.add_zero]
  · rw [Nat.mul_add_mod, Nat.mod_eq_of_lt hlt]
/-- One bit of a division: the divisor doesn't go in. -/
theorem bit_out {a v k r : Nat} (hr : r = 2 * (a / 2 ^ (k + 1) % v) + a / 2 ^ k % 2) (h : r < v) :
    a / 2 ^ k / v = 2 * (a / 2 ^ (k + 1) / v) ∧ a / 2 ^ k % v = r := by
  have hv : 0 < v := by omega
  have e := bit_high a k
  generalize a / 2 ^ (k + 1) = hi at *
  generalize hb : a / 2 ^ k % 2 = b at *
  rw [e]
  have hd := Nat.div_add_mod hi v
  have e2 : 2 * hi + b = v * (2 * (hi / v)) + r := by
    have : v * (2 * (hi / v)) = 2 * (v * (hi / v)) := by grind
    omega
  rw [e2]
  constructor
  · rw [Nat.mul_add_div hv, Nat.div_eq_of_lt h, Nat.add_zero]
  · rw [Nat.mul_add_mod, Nat.mod_eq_of_lt h]
/-- The doubling loop. -/
def DblI (l L : List Nat) (b k cr : Nat) : Prop := (∀ i, k ≤ i → wd L i = wd l i) ∧ Sm (wd L) k + cr * 4294967296 ^ k = 2 * Sm (wd l) k + b
theorem DblI.start (l : List Nat) (b : Nat) : DblI l l b 0 b := ⟨fun _ _ => rfl, by simp [Sm]⟩
theorem dbl_word {x c : Nat} (hc : c ≤ 1) (hx : x < 4294967296) : (x * 2 % 4294967296 ||| c) = x * 2 % 4294967296 + c ∧ x * 2 % 4294967296 + c < 4294967296 ∧ x / 2147483648 ≤ 1 := by
  refine ⟨?_, by omega, by omega⟩
  have h := Nat.shiftLeft_add_eq_or_of_lt (b := c) (i := 1) (by omega) (x * 2 % 4294967296 / 2)
  rw [Nat.shiftLeft_eq, Nat.pow_one, show x * 2 % 4294967296 / 2 * 2 = x * 2 % 4294967296 by omega] at h
  exact h.symm
theorem DblI.step {l L : List Nat} {b k cr x : Nat} (h : DblI l L b k cr) (hx : wd l k = x) (hlt : x < 4294967296) (hk : k < L.length) :
    DblI l (L.set k (x * 2 % 4294967296 + cr)) b (k + 1) (x / 2147483648) := by
  refine ⟨fun i hi => ?_, ?_⟩
  · rw [wd_set, if_neg (by omega)]; exact h.1 i (by omega)
  · rw [Sm_set_succ _ _ _ hk, Sm, hx, Nat.pow_succ]
    have h2 := h.2
    have e : x * 2 % 4294967296 + x / 2147483648 * 4294967296 = 2 * x := by omega
    have e2 : x * 2 % 4294967296 * 4294967296 ^ k + x / 2147483648 * (4294967296 ^ k * 4294967296) = 2 * (x * 4294967296 ^ k) := by
      have : (x * 2 % 4294967296 + x / 2147483648 * 4294967296) * 4294967296 ^ k = 2 * x * 4294967296 ^ k := by rw [e]
      rw [Nat.add_mul] at this
      have e3 : x / 2147483648 * (4294967296 ^ k * 4294967296) = x / 2147483648 * 4294967296 * 4294967296 ^ k := by grind
      rw [e3, ← Nat.mul_assoc]; exact this
    rw [Nat.add_mul]
    omega
theorem DblI.fin {l L : List Nat} {b k cr : Nat} (h : DblI l L b k cr) (hl : l.length = k) (hL : L.length = k) (hs : 2 * val l + b < 4294967296 ^ k) : val L = 2 * val l + b := by
  have h2 := h.2
  rw [Sm_ge L (by omega), Sm_ge l (by omega)] at h2
  rcases Nat.eq_zero_or_pos cr with e | e
  · subst e; omega
  · have : 1 * 4294967296 ^ k ≤ cr * 4294967296 ^ k := Nat.mul_le_mul_right _ e
    omega
theorem dbl_room {r v b m : Nat} (hr : r < v) (hv : v < 4294967296 ^ m) (hb : b ≤ 1) : 2 * r + b < 4294967296 ^ (m + 1) := by
  rw [Nat.pow_succ]; omega
end Bn

/- Walks: the reference's number of bits. -/
namespace Go.Proofs.Ytmneloabphplmaa
open Go Go.RowKit Bn

theorem val_last {l : List Nat} (h : Wds l) (h0 : 0 < l.length) {t : Nat} (ht : wd l (l.length - 1) < 2 ^ t) : val l < 2 ^ (32 * (l.length - 1) + t) := by
  have e := Sm_ge l (Nat.le_refl _)
  obtain ⟨m, hm⟩ : ∃ m, l.length = m + 1 := ⟨l.length - 1, by omega⟩
  rw [hm] at e ht ⊢
  simp only [Nat.add_sub_cancel] at ht ⊢
  rw [Sm] at e
  have h1 : Sm (wd l) m < 4294967296 ^ m := Sm_lt (fun i _ => wd_lt h i)
  have h2 : (4294967296 : Nat) ^ m = 2 ^ (32 * m) := by rw [Nat.pow_mul]
  rw [h2] at h1 e
  rw [Nat.pow_add, ← e]
  have h3 : (wd l m + 1) * 2 ^ (32 * m) ≤ 2 ^ t * 2 ^ (32 * m) := Nat.mul_le_mul_right _ ht
  rw [Nat.add_mul] at h3
  rw [Nat.mul_comm (2 ^ (32 * m)) (2 ^ t)]
  omega
/-- What bits returns: a number of bits that is enough, and not too many. -/
def RetB (w : World) (v n : Nat) (e : Ending) (w' : World) : Prop := ∃ N : Nat, e = .returned (.int .i64 (N : Nat)) ∧ v < 2 ^ N ∧ N ≤ 32 * n ∧ w = w'
set_option maxRecDepth 100000 in
set_option maxHeartbeats 1000000 in
/-- linkworkref01.bits -/
theorem r_bits_c (w : World) (A : Option Addr) (n c : Nat) (l : List Nat) (wa : Wd w A n c l) (hn : n ≤ 1099511627776) :
    Calls Try.prog 108 #[.slice A n c] w (RetB w (val l) n) := by
  have HL := Lib.hid wa.2.1
  by_cases h0 : n = 0
  · subst h0
    have HE := Lib.hid (show val l = 0 by rw [List.eq_nil_of_length_eq_zero HL.out.symm]; rfl)
    clear wa
    go_enter Try.func108, Try.ntmps108
    go_wp2
    go_ret
    exact ⟨0, rfl, by rw [HE.out]; decide, by omega, rfl⟩
  · obtain ⟨g, o, rfl, hgl, hc⟩ := wa.at2 (by omega)
    have hck := hc (n - 1) (by omega)
    have hlt := wa.lt (n - 1)
    have hp : 0 < n := by omega
    have HW := Lib.hid wa.1
    obtain ⟨x0, hx0⟩ : ∃ x, wd l (n - 1) = x := ⟨_, rfl⟩
    rw [hx0] at hck hlt
    have HX := Lib.hid hx0
    clear hc h0 hx0 wa
    have hn0 : ((n : Int) == 0) = false := by simp; omega
    go_enter Try.func108, Try.ntmps108
    go_wp2_with fail
    go_loop [3, 4] (fun nv xv => ∃ (t x : Nat), t ≤ 32 ∧ nv = .int .i64 ((32 * (n - 1) + t : Nat) : Int) ∧ xv = .int .u32 (x : Nat) ∧ x < 4294967296 ∧ x = x0 / 2 ^ t) (fun _ xv => (intOf xv).toNat)
    case atStart => exact ⟨0, x0, by omega, by congr 1; omega, rfl, hlt, by simp⟩
    case round =>
      obtain ⟨t, x, ht, rfl, rfl, hx, he⟩ := hrel
      have HE := Lib.hid he
      clear he
      by_cases hz : x = 0
      · subst hz
        go_wp2
        go_ret
        refine ⟨32 * (n - 1) + t, rfl, ?_, by omega, rfl⟩
        have h1 : x0 < 2 ^ t := by
          have := HE.out
          rcases Nat.lt_or_ge x0 (2 ^ t) with h | h
          · exact h
          · have := Nat.div_pos h (Nat.pow_pos (by omega)); omega
        have := val_last HW.out (by rw [← HL.out]; exact hp) (t := t) (by rw [← HL.out, HX.out]; exact h1)
        rwa [← HL.out] at this
      · have ht2 : t < 32 := by
          rcases Nat.lt_or_ge t 32 with h | h
          · exact h
          · exfalso
            have e : t = 32 := by omega
            have := HE.out
            rw [e] at this
            have : x = 0 := by rw [this]; exact Nat.div_eq_of_lt hlt
            omega
        have hxp : 0 < x := by omega
        go_wp2
        go_round
        case rel => exact ⟨t + 1, x / 2, by omega, by congr 1 <;> omega, by congr 1 <;> omega, by omega, by rw [HE.out, Nat.pow_succ, Nat.div_div_eq_div_mul]⟩
        case measure => simp [intOf]; omega
end Go.Proofs.Ytmneloabphplmaa

/- Walks: the reference's division. -/
namespace Go.Proofs.Ytmneloabphplmaa
open Go Go.RowKit Bn
attribute [local go_sem ↓] Go.wp_at_zero Go.wp_at_succ

theorem val_rep (m : Nat) : val (List.replicate m 0) = 0 := by
  induction m with
  | zero => rfl
  | succ m ih => rw [List.replicate_succ, val, ih]
theorem wds_rep (m : Nat) : Wds (List.replicate m 0) := by intro x hx; rw [List.eq_of_mem_replicate hx]; omega
theorem words_cells (l : List Nat) : (cellsOf l).toList = words l := by simp [cellsOf, words]
theorem OwS.made (w : World) {B : Nat} (L : List Nat) (n : Nat) (hB : B ≤ w.heap.size) (hn : n ≤ 4398046511104) (hL : L.length = n) (hW : Wds L) : OwS (w.alloc (.cells (cellsOf L) 92)) B w.heap.size n n L := by
  refine ⟨?_, hW⟩
  rw [← words_cells]
  exact World.ownsRow_lit w (cellsOf L) n hB (by unfold maxLen; omega) (by simp [cellsOf, hL])
theorem OwS.far {w : World} {B g n cap : Nat} {l : List Nat} (h : OwS w B g n cap l) {p : Addr} (hp : g ≠ p.block) (u : Value) : OwS (w.setCell p u) B g n cap l := by
  refine ⟨⟨h.1.1, ?_⟩, h.2⟩
  rcases h.1.2 with ⟨e, _⟩ | ⟨g', c', cur, e, hB, hgg, r⟩
  · cases e
  · have e' := e
    injection e with e1 _ e2; injection e1 with e1; injection e1 with e1; subst e1
    exact .inr ⟨g, c', cur, e', hB, (Below.heap_setCell w p u g hp).trans hgg, r⟩
theorem or_word {u p s : Nat} (hu : u + p < 4294967296) (ho : u ||| p = u + p) (hp : 2 ^ s = p) : bits .or .u32 (u : Int) ((2 : Int) ^ s % 4294967296) = ((u + p : Nat) : Int) := by
  have e : (2 : Int) ^ s % 4294967296 = (p : Int) := by
    have h : (2 : Int) ^ s = ((2 ^ s : Nat) : Int) := by simp
    rw [h, hp]; omega
  rw [e, ← ho]
  exact u32_or_nat u p (by omega) (by omega)
theorem q_in {q m : Nat} : (2 * q + 1) * 2 ^ m = q * 2 ^ (m + 1) + 2 ^ m := by rw [Nat.pow_succ]; grind
theorem q_out {q m : Nat} : (2 * q) * 2 ^ m = q * 2 ^ (m + 1) := by rw [Nat.pow_succ]; grind
def DivO (a b : Nat) (Lq Lr : List Nat) (k : Nat) : Prop := val Lq = a / 2 ^ k / b * 2 ^ k ∧ val Lr = a / 2 ^ k % b
set_option maxRecDepth 100000 in
set_option maxHeartbeats 2000000 in
/-- linkworkref01.divide -/
theorem r_divide_c (w : World) (A : Option Addr) (n c : Nat) (l : List Nat) (wa : Wd w A n c l) (hn : n ≤ 1000000000000) (A' : Option Addr) (n' c' : Nat) (l' : List Nat) (wb : Wd w A' n' c' l') (hn' : n' ≤ 1000000000000) (h0 : val l' ≠ 0) :
    Calls Try.prog 106 #[.slice A n c, .slice A' n' c'] w (RetD w (val l) (val l')) := by
  have HL := Lib.hid wa.2.1
  have HL' := Lib.hid wb.2.1
  obtain ⟨va, hva⟩ : ∃ v, val l = v := ⟨_, rfl⟩
  obtain ⟨vb, hvb⟩ : ∃ v, val l' = v := ⟨_, rfl⟩
  have HA := Lib.hid hva
  have HB := Lib.hid hvb
  rw [hvb] at h0
  have H0 := Lib.hid (Nat.pos_of_ne_zero h0)
  rw [hva, hvb]
  obtain ⟨gb, ob, rfl, hgb, _⟩ := wb.at2 (by
    rcases Nat.eq_zero_or_pos n' with e | e
    · exfalso
      have h9 := HL'.out
      rw [e] at h9
      rw [List.eq_nil_of_length_eq_zero h9.symm] at hvb
      exact h0 hvb.symm
    · exact e)
  clear h0 hva hvb
  go_enter Try.func106, Try.ntmps106
  go_wp2_with (first
    | (at_make; refine wpList_make_words _ rfl _ _ rfl _ _ _ _ n rfl rfl (by omega) (by omega) (by omega) ?_)
    | (at_make; refine wpList_make_words _ rfl _ _ rfl _ _ _ _ (n' + 1) rfl rfl (by omega) (by omega) (by omega) ?_))
  (with_reducible refine (r_bits_c _ A n c l ?_ (by omega)).mono ?_); (exact wa.keep (((Kp.refl w).alloc _).alloc _)); rintro e w1 ⟨N, rfl, hN1, hN2, rfl⟩
  rw [HA.out] at hN1
  go_wp2_with fail
  have oq0 : OwS ((w.alloc (.cells (cellsOf (List.replicate n 0)) 92)).alloc (.cells (cellsOf (List.replicate (n' + 1) 0)) 92)) w.heap.size w.heap.size n n (List.replicate n 0) :=
    (OwS.made w (List.replicate n 0) n (Nat.le_refl _) (by omega) (by simp) (wds_rep n)).belw ((brefl _).alloc (Nat.le_refl _) _)
  have or0 : OwS ((w.alloc (.cells (cellsOf (List.replicate n 0)) 92)).alloc (.cells (cellsOf (List.replicate (n' + 1) 0)) 92)) w.heap.size (w.heap.size + 1) (n' + 1) (n' + 1) (List.replicate (n' + 1) 0) := by
    have h := OwS.made (w.alloc (.cells (cellsOf (List.replicate n 0)) 92)) (B := w.heap.size) (List.replicate (n' + 1) 0) (n' + 1) (by simp) (by omega) (by simp) (wds_rep _)
    simpa using h
  have HO := Lib.hid (And.intro oq0 or0)
  clear oq0 or0
  go_loopw [8] (fun iv wr => ∃ (k : Nat) (z : Int) (Lq Lr : List Nat), k ≤ N ∧ iv = .int .i64 z ∧ z + 1 = (k : Int) ∧ DivO va vb Lq Lr k ∧ OwS wr w.heap.size w.heap.size n n Lq ∧ OwS wr w.heap.size (w.heap.size + 1) (n' + 1) (n' + 1) Lr ∧ Below w.heap.size w wr) (fun iv _ => (intOf iv + 1).toNat)
  case atStart =>
    refine ⟨N, (N : Int) - 1, _, _, Nat.le_refl _, by go_num, by omega, ⟨?_, ?_⟩, HO.out.1, HO.out.2, ((brefl w).alloc (Nat.le_refl _) _).alloc (by simp) _⟩
    · rw [val_rep, Nat.div_eq_of_lt hN1]; simp
    · rw [val_rep, Nat.div_eq_of_lt hN1]; simp
  case round =>
    obtain ⟨k, z, Lq, Lr, hk, rfl, hz, hI, hq, hr, hbel⟩ := hrel
    have HK := Lib.hid ((Kp.refl w).below hbel)
    have HI := Lib.hid hI
    have HQ := Lib.hid hq
    have HR := Lib.hid hr
    have HBL := Lib.hid hbel
    clear hI hq hr hbel HO
    by_cases hk0 : k = 0
    · subst hk0
      have ez : z = -1 := by omega
      subst ez
      go_wp2_with fail
      (with_reducible refine (r_trim_c _ (some ⟨w.heap.size, 0, none⟩) n n Lq ?_ (by omega)).mono ?_); (exact HQ.out.toWd); rintro e w1 ⟨A1, n1, c1, rfl, h1, hb1⟩
      have HR2 := Lib.hid (HR.out.belw hb1)
      have HBL2 := Lib.hid (HBL.out.trans (hb1.mono HBL.out.size))
      clear hb1
      go_wp2_with fail
      (with_reducible refine (r_trim_c _ (some ⟨w.heap.size + 1, 0, none⟩) (n' + 1) (n' + 1) Lr ?_ (by omega)).mono ?_); (exact HR2.out.toWd); rintro e w2 ⟨A2, n2, c2, rfl, h2, hb2⟩
      have h1' := h1.keep ((Kp.refl w1).below hb2)
      have HBL3 := HBL2.out.trans (hb2.mono HBL2.out.size)
      rw [HI.out.1] at h1'
      rw [HI.out.2] at h2
      simp only [Nat.pow_zero, Nat.div_one, Nat.mul_one] at h1' h2
      have HF := Lib.hid (And.intro h1' (And.intro h2 HBL3))
      clear h1 h1' h2 HBL3 hb2
      go_wp2
      refine bodyPost_ret (v := .tuple #[.slice A1 n1 c1, .slice A2 n2 c2]) (by simp [results, Try.results106, go_sem]) rfl ?_
      exact ⟨A1, n1, c1, A2, n2, c2, rfl, HF.out.1, HF.out.2.1, HF.out.2.2⟩
    · obtain ⟨m, rfl⟩ : ∃ m, k = m + 1 := ⟨k - 1, by omega⟩
      have ez : z = (m : Int) := by omega
      subst ez
      have hm32 : m / 32 < n := by omega
      obtain ⟨ga, oa, rfl, hgl, hca⟩ := (wa.keep HK.out).at2 (by omega)
      have hcx := hca (m / 32) hm32
      obtain ⟨x, hx⟩ : ∃ x, wd l (m / 32) = x := ⟨_, rfl⟩
      have hx1 : x < 4294967296 := by rw [← hx]; exact wa.lt _
      rw [hx] at hcx
      have HX := Lib.hid hx
      obtain ⟨br, hbr⟩ : ∃ d, bits .and .u32 ((x : Int) / 2 ^ (m % 32)) 1 = d := ⟨_, rfl⟩
      obtain ⟨b, hb⟩ : ∃ b, va / 2 ^ m % 2 = b := ⟨_, rfl⟩
      have hbb : br = (b : Int) := by
        rw [← hbr, ← hb, ← HA.out, ← wd_bit wa.1 m, hx]
        have e : (x : Int) / 2 ^ (m % 32) = ((x / 2 ^ (m % 32) : Nat) : Int) := by simp
        rw [e, and_one _ (Nat.lt_of_le_of_lt (Nat.div_le_self _ _) hx1)]
      have HB1 := Lib.hid hb
      have hb1 : b ≤ 1 := by omega
      clear hca hx hz hk0 hb
      go_wp2_with fail
      try rw [hbb]
      clear hbr hbb
      go_loopw [9, 36] (fun cv kv w2 => ∃ (k cr : Nat) (L2 : List Nat), k ≤ n' + 1 ∧ kv = .int .i64 (k : Nat) ∧ cv = .int .u32 (cr : Nat) ∧ cr ≤ 1 ∧ DblI Lr L2 b k cr ∧ OwS w2 w.heap.size w.heap.size n n Lq ∧ OwS w2 w.heap.size (w.heap.size + 1) (n' + 1) (n' + 1) L2 ∧ Below w.heap.size w w2) (fun _ kv _ => n' + 1 - (intOf kv).toNat)
      case atStart => exact ⟨0, b, Lr, Nat.zero_le _, rfl, rfl, hb1, DblI.start _ _, HQ.out, HR.out, HBL.out⟩
      case round =>
        obtain ⟨k, cr, L2, hk2, rfl, rfl, hcr, hI2, hq2, hr2, hbel2⟩ := hrel
        have HI2 := Lib.hid hI2
        have HQ2 := Lib.hid hq2
        have HR2 := Lib.hid hr2
        have HBL2 := Lib.hid hbel2
        clear hI2 hq2 hr2 hbel2
        by_cases hkk : k < n' + 1
        · obtain ⟨y, hy⟩ : ∃ y, wd Lr k = y := ⟨_, rfl⟩
          have hy1 : y < 4294967296 := by rw [← hy]; exact wd_lt HR.out.2 _
          have hck := HR2.out.cell k hkk
          rw [HI2.out.1 k (Nat.le_refl _), hy] at hck
          have hfk := HR2.out.frozen k
          have HY := Lib.hid hy
          obtain ⟨s, hs⟩ : ∃ s, bits .or .u32 ((y : Int) * 2 % 4294967296) (cr : Int) = s := ⟨_, rfl⟩
          have he : s = ((y * 2 % 4294967296 + cr : Nat) : Int) := by
            rw [← hs, ← (dbl_word hcr hy1).1]
            exact u32_or_nat (y * 2 % 4294967296) cr (Nat.mod_lt _ (by decide)) (by omega)
          have HE := Lib.hid he
          have HS := Lib.hid (dbl_word hcr hy1).2
          clear hy he
          go_wp2
          go_region
          clear hs
          go_wp2
          go_roundw
          case rel =>
            have hst := HI2.out.step HY.out hy1 (by rw [← HR2.out.len]; exact hkk)
            refine ⟨k + 1, y / 2147483648, L2.set k (y * 2 % 4294967296 + cr), by omega, by go_num, by go_num, HS.out.2, hst, ?_, ?_, ?_⟩
            · exact OwS.far (w := wr) HQ2.out (p := ⟨w.heap.size + 1, k, none⟩) (by simp) _
            · exact OwS.set (w := wr) HR2.out k HS.out.1 HE.out
            · exact (Below.setCell HBL2.out (p := ⟨w.heap.size + 1, k, none⟩) (by simp) _).drew
          case measure => simp [intOf]; omega
        · have hkn : k = n' + 1 := by omega
          subst hkn
          have hv2 : val L2 = 2 * val Lr + b := by
            have h3 := HR2.out.len
            have h4 := HR.out.len
            refine DblI.fin HI2.out (by omega) (by omega) ?_
            refine dbl_room (v := vb) ?_ ?_ hb1
            · rw [HI.out.2]; exact Nat.mod_lt _ H0.out
            · rw [← HB.out, HL'.out]; exact val_lt wb.1
          rw [HI.out.2, ← HB1.out] at hv2
          obtain ⟨r2, hr2⟩ : ∃ r, val L2 = r := ⟨_, rfl⟩
          rw [hr2] at hv2
          have HV := Lib.hid hv2
          have HR2v := Lib.hid hr2
          clear hv2 hr2
          by_cases hge : vb ≤ r2
          · have hc0 : 0 ≤ cmpN r2 vb := by unfold cmpN; (repeat' split) <;> omega
            obtain ⟨cv, hcv⟩ : ∃ cv, cmpN r2 vb = cv := ⟨_, rfl⟩
            rw [hcv] at hc0
            have HC := Lib.hid hcv
            clear hcv
            go_wp2_with fail
            (with_reducible refine (r_compare_c _ (some ⟨w.heap.size + 1, 0, none⟩) (n' + 1) (n' + 1) L2 ?_ ?_ (some ⟨gb, ob, none⟩) n' c' l' ?_ ?_).mono ?_); (exact HR2.out.toWd); (omega); (exact wb.keep ((Kp.refl w).below HBL2.out)); (omega); rintro e w1 ⟨rfl, hbl1⟩
            rw [HR2v.out, HB.out, HC.out]
            have HQ3 := Lib.hid (HQ2.out.belw hbl1)
            have HR3 := Lib.hid (HR2.out.belw hbl1)
            have HBL3 := Lib.hid (HBL2.out.trans (hbl1.mono HBL2.out.size))
            clear hbl1 HQ2 HR2 HBL2
            go_wp2_with fail
            (with_reducible refine (r_take_o _ w.heap.size (w.heap.size + 1) (n' + 1) (n' + 1) L2 ?_ ?_ (some ⟨gb, ob, none⟩) n' c' l' ?_ ?_ ?_ ?_).mono ?_)
            · exact HR3.out
            · omega
            · exact wb.keep ((Kp.refl w).below HBL3.out)
            · intro ad e; injection e with e; subst e; show gb ≠ _; omega
            · omega
            · rw [HR2v.out, HB.out]; exact hge
            rintro e w2 ⟨L3, rfl, hr3, hv3, hon⟩
            rw [HR2v.out, HB.out] at hv3
            have hq3 := hon.own HQ3.out (by omega)
            have HBL4 := Lib.hid (HBL3.out.trans (hon.1.mono (by omega)))
            have HR4 := Lib.hid hr3
            have HV3 := Lib.hid hv3
            obtain ⟨u, hu⟩ : ∃ u, wd Lq (m / 32) = u := ⟨_, rfl⟩
            have hcq := hq3.cell (m / 32) hm32
            have hfq := hq3.frozen (m / 32)
            rw [hu] at hcq
            have hob := or_bit HQ.out.2 m (by rw [← HQ.out.len]; exact hm32) HI.out.1
            rw [hu] at hob
            obtain ⟨p, hp⟩ : ∃ p, 2 ^ (m % 32) = p := ⟨_, rfl⟩
            rw [hp] at hob
            have HQ4 := Lib.hid hq3
            have HOB := Lib.hid hob
            have HU := Lib.hid hu
            have HP := Lib.hid hp
            clear hr3 hv3 hon hq3 HQ3 HR3 HBL3 hu hob hp
            go_wp2
            go_region
            go_wp2
            go_roundw
            case rel =>
              have hbi := bit_in (a := va) (k := m) HV.out hge H0.out
              have he := or_word HOB.out.2.1 HOB.out.1 HP.out
              refine ⟨m, (m : Int) - 1, Lq.set (m / 32) (u + p), L3, by omega, by go_num, by omega, ⟨?_, ?_⟩, ?_, ?_, ?_⟩
              · rw [HOB.out.2.2, HI.out.1, hbi.1, q_in]
              · rw [HV3.out, hbi.2]
              · exact OwS.set (w := w2) HQ4.out (m / 32) HOB.out.2.1 he
              · exact OwS.far (w := w2) HR4.out (p := ⟨w.heap.size, m / 32, none⟩) (by simp) _
              · exact (Below.setCell HBL4.out (p := ⟨w.heap.size, m / 32, none⟩) (by simp) _).drew
            case measure => simp [intOf] <;> omega
          · have hc0 : cmpN r2 vb < 0 := by unfold cmpN; (repeat' split) <;> omega
            obtain ⟨cv, hcv⟩ : ∃ cv, cmpN r2 vb = cv := ⟨_, rfl⟩
            rw [hcv] at hc0
            have HC := Lib.hid hcv
            clear hcv
            go_wp2_with fail
            (with_reducible refine (r_compare_c _ (some ⟨w.heap.size + 1, 0, none⟩) (n' + 1) (n' + 1) L2 ?_ ?_ (some ⟨gb, ob, none⟩) n' c' l' ?_ ?_).mono ?_); (exact HR2.out.toWd); (omega); (exact wb.keep ((Kp.refl w).below HBL2.out)); (omega); rintro e w1 ⟨rfl, hbl1⟩
            rw [HR2v.out, HB.out, HC.out]
            have HQ3 := Lib.hid (HQ2.out.belw hbl1)
            have HR3 := Lib.hid (HR2.out.belw hbl1)
            have HBL3 := Lib.hid (HBL2.out.trans (hbl1.mono HBL2.out.size))
            clear hbl1 HQ2 HR2 HBL2
            go_wp2
            go_roundw
            case rel =>
              have hbi := bit_out (a := va) (k := m) HV.out (by omega)
              refine ⟨m, (m : Int) - 1, Lq, L2, by omega, by go_num, by omega, ⟨?_, ?_⟩, HQ3.out, HR3.out, HBL3.out⟩
              · rw [HI.out.1, hbi.1, q_out]
              · rw [HR2v.out, hbi.2]
            case measure => simp [intOf] <;> omega
end Go.Proofs.Ytmneloabphplmaa

/- Walks: the reference's Div, of a dividend that is not negative or that the divisor divides. -/
namespace Go.Proofs.Ytmneloabphplmaa
open Go Go.RowKit Bn
attribute [local go_sem ↓] Go.wp_at_zero Go.wp_at_succ
theorem r_neg_e (w : World) (b : Bool) (A : Option Addr) (n c : Nat) (l : List Nat) (s : Bool) (wa : Wd w A n c l) (hn : n ≤ 1099511627776) (hs : WD.s ⟨b, l⟩ = s) :
    Calls Try.prog 85 #[.agg #[.bool b, .slice A n c]] w (RetV w (.bool s)) := by subst hs; exact r_neg_c w b A n c l wa hn
theorem r_sign_x (w : World) (b : Bool) (A : Option Addr) (n c : Nat) (l : List Nat) (s : Int) (wa : Wd w A n c l) (hn : n ≤ 1099511627000) (hs : (WD.z ⟨b, l⟩).sign = s) :
    Calls Try.prog 72 #[.agg #[.bool b, .slice A n c]] w (RetV w (.int .i64 s)) := by subst hs; exact r_sign_c w b A n c l wa hn
theorem r_divide_e (w : World) (A : Option Addr) (n c : Nat) (l : List Nat) (wa : Wd w A n c l) (hn : n ≤ 1000000000000) (A' : Option Addr) (n' c' : Nat) (l' : List Nat) (wb : Wd w A' n' c' l') (hn' : n' ≤ 1000000000000) (x y : Nat) (hx : val l = x) (hy : val l' = y) (h0 : y ≠ 0) :
    Calls Try.prog 106 #[.slice A n c, .slice A' n' c'] w (RetD w x y) := by subst hx hy; exact r_divide_c w A n c l wa hn A' n' c' l' wb hn' h0
/-- What Div returns. -/
def RetDivR (w : World) (q r : Int) (e : Ending) (w' : World) : Prop := ∃ A1 n1 c1 A2 n2 c2, e = .returned (.tuple #[.agg #[.bool (wh q).neg, .slice A1 n1 c1], .agg #[.bool (wh r).neg, .slice A2 n2 c2], .int .i64 0]) ∧ Wd w' A1 n1 c1 (wh q).mag ∧ Wd w' A2 n2 c2 (wh r).mag ∧ Below w.heap.size w w'
set_option maxHeartbeats 4000000 in
/-- linkworkref01.Div -/
theorem r_div_C (w : World) (b : Bool) (A : Option Addr) (n c : Nat) (l : List Nat) (wa : Wd w A n c l) (hn : n ≤ 1000000000000) (b' : Bool) (A' : Option Addr) (n' c' : Nat) (l' : List Nat) (wb : Wd w A' n' c' l') (hn' : n' ≤ 1000000000000) (h0 : WD.z ⟨b', l'⟩ ≠ 0) (hr0 : WD.z ⟨b, l⟩ % WD.z ⟨b', l'⟩ = 0) :
    Calls Try.prog 95 #[.agg #[.bool b, .slice A n c], .agg #[.bool b', .slice A' n' c']] w (RetDivR w (WD.z ⟨b, l⟩ / WD.z ⟨b', l'⟩) (WD.z ⟨b, l⟩ % WD.z ⟨b', l'⟩)) := by
  have HL := Lib.hid wa.2.1
  have HL' := Lib.hid wb.2.1
  obtain ⟨s0, hs0'⟩ : ∃ s, (WD.z ⟨b', l'⟩).sign = s := ⟨_, rfl⟩
  have es0 : ((s0 : Int) == 0) = false := by simp; rintro rfl; exact h0 (Int.sign_eq_zero_iff_zero.1 hs0')
  have HSG := Lib.hid hs0'
  clear hs0'
  have hd0 : val (WD.m ⟨b', l'⟩) ∣ val (WD.m ⟨b, l⟩) := by
    rw [← z_nat ⟨b, l⟩, ← z_nat ⟨b', l'⟩]
    exact Int.natAbs_dvd_natAbs.2 (Int.dvd_of_emod_eq_zero hr0)
  rw [WD.z_eq] at h0 ⊢
  rw [WD.z_eq ⟨b', l'⟩]
  have hv2 : val (WD.m ⟨b', l'⟩) ≠ 0 := by intro e; rw [e] at h0; exact h0 (by cases (WD.s ⟨b', l'⟩) <;> rfl)
  obtain ⟨sa, hsa⟩ : ∃ s, WD.s ⟨b, l⟩ = s := ⟨_, rfl⟩
  obtain ⟨sb, hsb⟩ : ∃ s, WD.s ⟨b', l'⟩ = s := ⟨_, rfl⟩
  rw [hsa, hsb]
  obtain ⟨x, hx⟩ : ∃ x, val (WD.m ⟨b, l⟩) = x := ⟨_, rfl⟩
  obtain ⟨y, hy⟩ : ∃ y, val (WD.m ⟨b', l'⟩) = y := ⟨_, rfl⟩
  rw [hx, hy]
  rw [hx, hy] at hd0
  have HS := Lib.hid (And.intro hsa hsb)
  have HX := Lib.hid (And.intro hx hy)
  have HY := Lib.hid (show y ≠ 0 from hy ▸ hv2)
  have HR0 := Lib.hid (Nat.mod_eq_zero_of_dvd hd0)
  clear hsa hsb hx hy hv2 h0 hr0 hd0
  go_enter Try.func95, Try.ntmps95
  go_wp2_with fail
  have b0 : Below w.heap.size w ((((w.alloc (.cells #[.bool b, .slice A n c] 63)).alloc (.cells #[.bool b', .slice A' n' c'] 63)).alloc (.cells #[.bool false, .slice none 0 0] 63)).alloc (.cells #[.bool false, .slice none 0 0] 63)) := (((((Below.refl _ _).alloc (Nat.le_refl _) _).alloc (by simp) _).alloc (by simp; omega) _).alloc (by simp; omega) _)
  generalize hW0 : ((((w.alloc (.cells #[.bool b, .slice A n c] 63)).alloc (.cells #[.bool b', .slice A' n' c'] 63)).alloc (.cells #[.bool false, .slice none 0 0] 63)).alloc (.cells #[.bool false, .slice none 0 0] 63)) = W0 at b0 ⊢
  have c00 : W0.cell? ⟨w.heap.size, 0, none⟩ = some (.bool b) := by subst hW0; simp [go_sem]
  have f00 : W0.frozen? ⟨w.heap.size, 0, none⟩ = false := by subst hW0; simp [go_sem]
  have c01 : W0.cell? ⟨w.heap.size, 1, none⟩ = some (.slice A n c) := by subst hW0; simp [go_sem]
  have f01 : W0.frozen? ⟨w.heap.size, 1, none⟩ = false := by subst hW0; simp [go_sem]
  have c10 : W0.cell? ⟨w.heap.size + 1, 0, none⟩ = some (.bool b') := by subst hW0; simp [go_sem]
  have f10 : W0.frozen? ⟨w.heap.size + 1, 0, none⟩ = false := by subst hW0; simp [go_sem]
  have c11 : W0.cell? ⟨w.heap.size + 1, 1, none⟩ = some (.slice A' n' c') := by subst hW0; simp [go_sem]
  have f11 : W0.frozen? ⟨w.heap.size + 1, 1, none⟩ = false := by subst hW0; simp [go_sem]
  have c20 : W0.cell? ⟨w.heap.size + 1 + 1, 0, none⟩ = some (.bool false) := by subst hW0; simp [go_sem]
  have f20 : W0.frozen? ⟨w.heap.size + 1 + 1, 0, none⟩ = false := by subst hW0; simp [go_sem]
  have c21 : W0.cell? ⟨w.heap.size + 1 + 1, 1, none⟩ = some (.slice none 0 0) := by subst hW0; simp [go_sem]
  have f21 : W0.frozen? ⟨w.heap.size + 1 + 1, 1, none⟩ = false := by subst hW0; simp [go_sem]
  have c30 : W0.cell? ⟨w.heap.size + 1 + 1 + 1, 0, none⟩ = some (.bool false) := by subst hW0; simp [go_sem]
  have f30 : W0.frozen? ⟨w.heap.size + 1 + 1 + 1, 0, none⟩ = false := by subst hW0; simp [go_sem]
  have c31 : W0.cell? ⟨w.heap.size + 1 + 1 + 1, 1, none⟩ = some (.slice none 0 0) := by subst hW0; simp [go_sem]
  have f31 : W0.frozen? ⟨w.heap.size + 1 + 1 + 1, 1, none⟩ = false := by subst hW0; simp [go_sem]
  have x0 : Box W0 (w.heap.size) 63 := by subst hW0; exact (((boxAt _ _ _ (by simp)).alloc _).alloc _).alloc _
  have x1 : Box W0 (w.heap.size + 1) 63 := by subst hW0; exact ((boxAt _ _ _ (by simp)).alloc _).alloc _
  have x2 : Box W0 (w.heap.size + 1 + 1) 63 := by subst hW0; exact (boxAt _ _ _ (by simp)).alloc _
  have x3 : Box W0 (w.heap.size + 1 + 1 + 1) 63 := by subst hW0; exact boxAt _ _ _ (by simp)
  have hm0 : Made (w.heap.size + 1 + 1) (w.heap.size + 1 + 1 + 1 + 1) 2 W0 := by subst hW0; exact made2 (by simp) rfl
  have hs0 : w.heap.size + 1 + 1 + 1 + 1 ≤ W0.heap.size := by subst hW0; simp
  clear hW0
  have wa := wa.belw b0
  have wb := wb.belw b0
  have r0 : Below W0.heap.size W0 W0 := brefl _
  go_wp2_with (first
    | (go_at_call 72; (with_reducible refine (r_sign_x _ b' A' n' c' l' s0 ?_ ?_ ?_).mono ?_); (exact wb); (omega); (exact HSG.out); rintro e w1 ⟨rfl, hb1⟩; have r1 := bnext r0 hb1; replace wa := wa.belw hb1; replace wb := wb.belw hb1; (try clear sc sf sr sz); obtain ⟨⟨sc, sf⟩, sr, sz⟩ := Seen.of (by omega) hs0 hm0 r1))
  (try clear sc sf sr sz)
  have hRB : w.heap.size + 1 + 1 ≤ w.heap.size + 1 + 1 + 1 + 1 := by omega
  go_region_held3 (fun w' => Sees (w.heap.size + 1 + 1) W0 w') (first | exact Sees.of (Nat.le_trans hRB hs0) (by assumption) | exact Sees.of (Nat.le_trans hRB hs0) (below_drewN (by assumption) _))
    (first
      | (go_at_call 84; (with_reducible refine (r_mag_c _ b A n c l ?_ ?_).mono ?_); (exact wa); (omega); rintro e w2 ⟨A2, n2, c2, rfl, h2, hb2⟩; replace hb2 := bnext (below_drewN (brefl _) 1) hb2; have r2 := bnext r1 hb2; replace wa := wa.belw hb2; replace wb := wb.belw hb2)
      | (go_at_call 84; (with_reducible refine (r_mag_c _ b' A' n' c' l' ?_ ?_).mono ?_); (exact wb); (omega); rintro e w3 ⟨A3, n3, c3, rfl, h3, hb3⟩; have r3 := bnext r2 hb3; replace wa := wa.belw hb3; replace wb := wb.belw hb3; replace h2 := h2.belw hb3)
      | (go_at_call 106; (with_reducible refine (r_divide_e _ A2 n2 c2 (WD.m ⟨b, l⟩) ?_ ?_ A3 n3 c3 (WD.m ⟨b', l'⟩) ?_ ?_ x y ?_ ?_ ?_).mono ?_); (exact h2); (exact h2.m_len (by rw [← HL.out]; exact hn)); (exact h3); (exact h3.m_len (by rw [← HL'.out]; exact hn')); (exact HX.out.1); (exact HX.out.2); (exact HY.out); rintro e w4 ⟨A4, n4, c4, A5, n5, c5, rfl, h4, h5, hb4⟩; have r4 := bnext r3 hb4; replace wa := wa.belw hb4; replace wb := wb.belw hb4; replace h2 := h2.belw hb4; replace h3 := h3.belw hb4))
  obtain ⟨⟨sc, sf⟩, sr, sz⟩ := Seen.of (by omega) hs0 hm0 r4
  clear hRB
  have hn4 : n4 ≤ 1000000000000 := by
    rw [h4.2.1]; exact dlen (Nat.lt_of_le_of_lt (Nat.div_le_self _ _) (HX.out.1 ▸ h2.vlt (Nat.le_refl _))) (h2.m_len (by rw [← HL.out]; exact hn))
  have hn5 : n5 = 0 := by rw [h5.2.1, HR0.out, digs_zero]; rfl
  subst hn5
  cases sa
  · go_wp2_with (first
      | (go_at_call 85; (with_reducible refine (r_neg_e _ b A n c l false ?_ ?_ ?_).mono ?_); (exact wa); (omega); (exact HS.out.1); rintro e w5 ⟨rfl, hb5⟩; have r5 := bnext r4 hb5; replace wa := wa.belw hb5; replace wb := wb.belw hb5; replace h2 := h2.belw hb5; replace h3 := h3.belw hb5; replace h4 := h4.belw hb5; replace h5 := h5.belw hb5; (try clear sc sf sr sz); obtain ⟨⟨sc, sf⟩, sr, sz⟩ := Seen.of (by omega) hs0 hm0 r5))
    have HZ := Lib.hid (div_plain (sa := false) (sb := sb) (x := x) HY.out (.inr HR0.out))
    (try clear sc sf sr sz)
    have hRB : w.heap.size + 1 + 1 ≤ w.heap.size + 1 + 1 + 1 + 1 := by omega
    go_region_held3 (fun w' => Sees (w.heap.size + 1 + 1) W0 w') (first | exact Sees.of (Nat.le_trans hRB hs0) (by assumption) | exact Sees.of (Nat.le_trans hRB hs0) (below_drewN (by assumption) _) | exact (Sees.set (Sees.of (Nat.le_trans hRB hs0) (by assumption)) (by simp)) | exact (Sees.set (Sees.set (Sees.of (Nat.le_trans hRB hs0) (by assumption)) (by simp)) (by simp)) | exact (Sees.set (Sees.set (Sees.set (Sees.of (Nat.le_trans hRB hs0) (by assumption)) (by simp)) (by simp)) (by simp)) | exact (Sees.set (Sees.set (Sees.set (Sees.set (Sees.of (Nat.le_trans hRB hs0) (by assumption)) (by simp)) (by simp)) (by simp)) (by simp)))
      (first
        | (go_at_call 85; (with_reducible refine (r_neg_e _ b A n c l false ?_ ?_ ?_).mono ?_); (exact wa); (omega); (exact HS.out.1); rintro e w6 ⟨rfl, hb6⟩; replace hb6 := bnext (below_drewN (brefl _) 1) hb6; have r6 := bnext r5 hb6; replace wa := wa.belw hb6; replace wb := wb.belw hb6; replace h2 := h2.belw hb6; replace h3 := h3.belw hb6; replace h4 := h4.belw hb6; replace h5 := h5.belw hb6)
        | (go_at_call 85; (with_reducible refine (r_neg_e _ b' A' n' c' l' sb ?_ ?_ ?_).mono ?_); (exact wb); (omega); (exact HS.out.2); rintro e w7 ⟨rfl, hb7⟩; have r7 := bnext r6 hb7; replace wa := wa.belw hb7; replace wb := wb.belw hb7; replace h2 := h2.belw hb7; replace h3 := h3.belw hb7; replace h4 := h4.belw hb7; replace h5 := h5.belw hb7)
        | (go_at_call 81; (with_reducible refine (r_form_e _ sb A4 n4 c4 (digs (x / y)) (sgn false x / sgn sb y) ?_ ?_ ?_).mono ?_); (exact h4); (omega); (rw [HZ.out.1, val_digs]; cases sb <;> rfl); rintro e w8 ⟨A8, n8, c8, rfl, h8, hb8⟩; have r8 := bnext r7 hb8; replace wa := wa.belw hb8; replace wb := wb.belw hb8; replace h2 := h2.belw hb8; replace h3 := h3.belw hb8; replace h4 := h4.belw hb8; replace h5 := h5.belw hb8)
        | (go_at_call 81; (with_reducible refine (r_form_e _ false A5 0 c5 (digs (x % y)) (sgn false x % sgn sb y) ?_ ?_ ?_).mono ?_); (exact h5); (omega); (rw [HZ.out.2, val_digs]; rfl); rintro e w9 ⟨A9, n9, c9, rfl, h9, hb9⟩; have r9 := bnext r8 hb9; replace wa := wa.belw hb9; replace wb := wb.belw hb9; replace h2 := h2.belw hb9; replace h3 := h3.belw hb9; replace h4 := h4.belw hb9; replace h5 := h5.belw hb9; replace h8 := h8.belw hb9; obtain ⟨⟨sc, sf⟩, sr, sz⟩ := Seen.of (by omega) hs0 hm0 r9))
    clear hRB
    go_wp2_with fail
    refine bodyPost_ret (v := .tuple #[.agg #[.bool _, .slice A8 n8 c8], .agg #[.bool _, .slice A9 n9 c9], .int .i64 0]) (by simp [results, Try.results95, go_sem, sr]; first | rfl | exact ⟨rfl, rfl⟩) rfl ?_
    have y2 := x2.below r9
    have y3 := x3.below r9
    refine ⟨A8, n8, c8, A9, n9, c9, rfl, ?_, ?_, ?_⟩
    · exact h8.keep (kp4 y2 y3 (by decide) (by decide) _ _ _ _ _ _ _ _)
    · exact h9.keep (kp4 y2 y3 (by decide) (by decide) _ _ _ _ _ _ _ _)
    · exact ((((b0.trans (r9.mono b0.size)).setCell (by dsimp only; omega) _).setCell (by dsimp only; omega) _).setCell (by dsimp only; omega) _).setCell (by dsimp only; omega) _
  · go_wp2_with (first
      | (go_at_call 85; (with_reducible refine (r_neg_e _ b A n c l true ?_ ?_ ?_).mono ?_); (exact wa); (omega); (exact HS.out.1); rintro e w5 ⟨rfl, hb5⟩; have r5 := bnext r4 hb5; replace wa := wa.belw hb5; replace wb := wb.belw hb5; replace h2 := h2.belw hb5; replace h3 := h3.belw hb5; replace h4 := h4.belw hb5; replace h5 := h5.belw hb5; (try clear sc sf sr sz); obtain ⟨⟨sc, sf⟩, sr, sz⟩ := Seen.of (by omega) hs0 hm0 r5))
    have HZ := Lib.hid (div_plain (sa := true) (sb := sb) (x := x) HY.out (.inr HR0.out))
    (try clear sc sf sr sz)
    have hRB : w.heap.size + 1 + 1 ≤ w.heap.size + 1 + 1 + 1 + 1 := by omega
    go_region_held3 (fun w' => Sees (w.heap.size + 1 + 1) W0 w') (first | exact Sees.of (Nat.le_trans hRB hs0) (by assumption) | exact Sees.of (Nat.le_trans hRB hs0) (below_drewN (by assumption) _) | exact (Sees.set (Sees.of (Nat.le_trans hRB hs0) (by assumption)) (by simp)) | exact (Sees.set (Sees.set (Sees.of (Nat.le_trans hRB hs0) (by assumption)) (by simp)) (by simp)) | exact (Sees.set (Sees.set (Sees.set (Sees.of (Nat.le_trans hRB hs0) (by assumption)) (by simp)) (by simp)) (by simp)) | exact (Sees.set (Sees.set (Sees.set (Sees.set (Sees.of (Nat.le_trans hRB hs0) (by assumption)) (by simp)) (by simp)) (by simp)) (by simp)))
      (first
        | (go_at_call 85; (with_reducible refine (r_neg_e _ b A n c l true ?_ ?_ ?_).mono ?_); (exact wa); (omega); (exact HS.out.1); rintro e w6 ⟨rfl, hb6⟩; replace hb6 := bnext (below_drewN (brefl _) 1) hb6; have r6 := bnext r5 hb6; replace wa := wa.belw hb6; replace wb := wb.belw hb6; replace h2 := h2.belw hb6; replace h3 := h3.belw hb6; replace h4 := h4.belw hb6; replace h5 := h5.belw hb6)
        | (go_at_call 85; (with_reducible refine (r_neg_e _ b' A' n' c' l' sb ?_ ?_ ?_).mono ?_); (exact wb); (omega); (exact HS.out.2); rintro e w7 ⟨rfl, hb7⟩; have r7 := bnext r6 hb7; replace wa := wa.belw hb7; replace wb := wb.belw hb7; replace h2 := h2.belw hb7; replace h3 := h3.belw hb7; replace h4 := h4.belw hb7; replace h5 := h5.belw hb7)
        | (go_at_call 81; (with_reducible refine (r_form_e _ (!sb) A4 n4 c4 (digs (x / y)) (sgn true x / sgn sb y) ?_ ?_ ?_).mono ?_); (exact h4); (omega); (rw [HZ.out.1, val_digs]; cases sb <;> rfl); rintro e w8 ⟨A8, n8, c8, rfl, h8, hb8⟩; have r8 := bnext r7 hb8; replace wa := wa.belw hb8; replace wb := wb.belw hb8; replace h2 := h2.belw hb8; replace h3 := h3.belw hb8; replace h4 := h4.belw hb8; replace h5 := h5.belw hb8)
        | (go_at_call 81; (with_reducible refine (r_form_e _ false A5 0 c5 (digs (x % y)) (sgn true x % sgn sb y) ?_ ?_ ?_).mono ?_); (exact h5); (omega); (rw [HZ.out.2, val_digs]; rfl); rintro e w9 ⟨A9, n9, c9, rfl, h9, hb9⟩; have r9 := bnext r8 hb9; replace wa := wa.belw hb9; replace wb := wb.belw hb9; replace h2 := h2.belw hb9; replace h3 := h3.belw hb9; replace h4 := h4.belw hb9; replace h5 := h5.belw hb9; replace h8 := h8.belw hb9; obtain ⟨⟨sc, sf⟩, sr, sz⟩ := Seen.of (by omega) hs0 hm0 r9))
    clear hRB
    go_wp2_with fail
    refine bodyPost_ret (v := .tuple #[.agg #[.bool _, .slice A8 n8 c8], .agg #[.bool _, .slice A9 n9 c9], .int .i64 0]) (by simp [results, Try.results95, go_sem, sr]; first | rfl | exact ⟨rfl, rfl⟩) rfl ?_
    have y2 := x2.below r9
    have y3 := x3.below r9
    refine ⟨A8, n8, c8, A9, n9, c9, rfl, ?_, ?_, ?_⟩
    · exact h8.keep (kp4 y2 y3 (by decide) (by decide) _ _ _ _ _ _ _ _)
    · exact h9.keep (kp4 y2 y3 (by decide) (by decide) _ _ _ _ _ _ _ _)
    · exact ((((b0.trans (r9.mono b0.size)).setCell (by dsimp only; omega) _).setCell (by dsimp only; omega) _).setCell (by dsimp only; omega) _).setCell (by dsimp only; omega) _
theorem r01_div (w : World) (b : Bool) (A : Option Addr) (n c : Nat) (z : Int) (k : Nat) (h : IZ w b A n c z k) (b' : Bool) (A' : Option Addr) (n' c' : Nat) (z' : Int) (k' : Nat) (h' : IZ w b' A' n' c' z' k') (hk : k + k' ≤ 1000000000) (h0 : z' ≠ 0) (hr : z % z' = 0) : Calls Try.prog 95 #[.agg #[.bool b, .slice A n c], .agg #[.bool b', .slice A' n' c']] w (RetDv w (.int .i64 0) (z / z') (z % z') (k + k')) := by
  have hz := h.mono (Nat.le_add_right k k') |>.lt
  have hz' := h'.mono (Nat.le_add_left k' k) |>.lt
  obtain ⟨l, h1, rfl, h3⟩ := h
  obtain ⟨l', h1', rfl, h3'⟩ := h'
  refine (r_div_C w b A n c l h1 (by omega) b' A' n' c' l' h1' (by omega) h0 hr).mono fun _ _ r => ?_
  obtain ⟨A1, n1, c1, A2, n2, c2, rfl, r1, r2, r3⟩ := r
  refine ⟨_, A1, n1, c1, _, A2, n2, c2, rfl, IV.mk_ r1 rfl ?_, IV.mk_ r2 rfl ?_, r3⟩
  · exact Nat.lt_of_le_of_lt (Int.natAbs_ediv_le_natAbs _ _) hz
  · have e1 := Int.emod_nonneg (WD.z ⟨b, l⟩) h0
    have e2 := Int.emod_lt (WD.z ⟨b, l⟩) h0
    omega
end Go.Proofs.Ytmneloabphplmaa

/- Walks: the reference: fractions in lowest terms. -/
namespace Go.Proofs.Ytmneloabphplmaa
open Go Go.RowKit Bn
attribute [local go_sem ↓] Go.wp_at_zero Go.wp_at_succ
theorem r01_sign_e (w : World) (b : Bool) (A : Option Addr) (n c : Nat) (z : Int) (k : Nat) (h : IZ w b A n c z k) (s : Int) (hs : z.sign = s) (hk : k ≤ 1000000000) : Calls Try.prog 72 #[.agg #[.bool b, .slice A n c]] w (RetV w (.int .i64 s)) := by
  subst hs; exact r01_sign w b A n c z k h hk
theorem form_any {z d : Int} {q : Rat} (hz : z ≠ 0) (hd : 0 < d) (hq : Rat.divInt z d = q) :
    (rd q).num = (wh (z / ((Nat.gcd z.natAbs d.natAbs : Nat) : Int))).mag ∧ (rd q).den = (wh (d / ((Nat.gcd z.natAbs d.natAbs : Nat) : Int))).mag ∧ (rd q).neg = (wh (z / ((Nat.gcd z.natAbs d.natAbs : Nat) : Int))).neg := by
  rw [← hq, rd_divInt hz hd, wh_div _ hd]
  have hg : 0 < Nat.gcd z.natAbs d.natAbs := Nat.gcd_pos_of_pos_right _ (by omega)
  have hdv : ((Nat.gcd z.natAbs d.natAbs : Nat) : Int) ∣ z := Int.ofNat_dvd_left.2 (Nat.gcd_dvd_left _ _)
  generalize Nat.gcd z.natAbs d.natAbs = g at *
  obtain ⟨m, rfl⟩ := hdv
  have e : (g : Int) * m / (g : Int) = m := Int.mul_ediv_cancel_left _ (by omega)
  have e2 : ((g : Int) * m).natAbs / g = m.natAbs := by rw [Int.natAbs_mul, Int.natAbs_natCast]; exact Nat.mul_div_cancel_left _ hg
  rw [e, e2]
  refine ⟨rfl, rfl, ?_⟩
  unfold wh
  simp only [decide_eq_decide]
  constructor
  · intro h; rcases (show m < 0 ∨ 0 ≤ m by omega) with h1 | h1; exact h1; exact absurd (Int.mul_nonneg (Int.natCast_nonneg g) h1) (by omega)
  · intro h; exact Int.mul_neg_of_pos_of_neg (by omega) h
set_option maxRecDepth 100000 in
set_option maxHeartbeats 2000000 in
/-- linkworkref02.form -/
theorem g_form_0 (w : World) (b : Bool) (A : Option Addr) (n c : Nat) (z : Int) (k : Nat) (h : IZ w b A n c z k) (b' : Bool) (A' : Option Addr) (n' c' : Nat) (z' : Int) (k' : Nat) (h' : IZ w b' A' n' c' z' k') (K : Nat) (hz : z = 0) (hk : k + k' ≤ 300000000) :
    Calls Try.prog 80 #[.agg #[.bool b, .slice A n c], .agg #[.bool b', .slice A' n' c']] w (RetF w 0 K) := by
  have HZ := Lib.hid (show z.sign = 0 by rw [hz]; rfl)
  clear hz
  go_enter Try.func80, Try.ntmps80
  go_wp2_with fail
  (with_reducible refine (r01_sign_e _ b A n c (z) (k) ?_ (0) ?_ ?_).mono ?_); (exact (h.belw ((((Below.refl _ _).alloc (Nat.le_refl _) _).alloc (by simp) _).alloc (by simp <;> omega) _))); (exact HZ.out); (omega); rintro e w1 ⟨rfl, hb1⟩
  have q1 : Below w.heap.size w w1 := ((((Below.refl _ _).alloc (Nat.le_refl _) _).alloc (by simp) _).alloc (by simp <;> omega) _).trans (hb1.mono (by simp <;> omega))
  replace h := h.belw q1
  replace h' := h'.belw q1
  have x1_0 : Blk w1 (w.heap.size) 63 #[.bool b, .slice A n c] := (((blkAt _ _ _ (by simp)).alloc _).alloc _).below hb1 (by simp <;> omega)
  have x1_1 : Blk w1 (w.heap.size + 1) 63 #[.bool b', .slice A' n' c'] := ((blkAt _ _ _ (by simp)).alloc _).below hb1 (by simp <;> omega)
  have x1_2 : Blk w1 (w.heap.size + 1 + 1) 24 #[.bool false, .slice none 0 0, .slice none 0 0] := (blkAt _ _ _ (by simp)).below hb1 (by simp)
  have bw1 : Below w.heap.size w w1 := (brefl w).trans (q1.mono (brefl w).size)
  have lw1 : w.heap.size + 3 ≤ w1.heap.size := by have := hb1.size; simp at this; omega
  clear hb1 q1
  have cx1_2_0 : w1.cell? ⟨w.heap.size + 1 + 1, 0, none⟩ = some (.bool false) := x1_2.cell 0
  have fx1_2_0 : w1.frozen? ⟨w.heap.size + 1 + 1, 0, none⟩ = false := x1_2.frozen 0
  have cx1_2_1 : w1.cell? ⟨w.heap.size + 1 + 1, 1, none⟩ = some (.slice none 0 0) := x1_2.cell 1
  have fx1_2_1 : w1.frozen? ⟨w.heap.size + 1 + 1, 1, none⟩ = false := x1_2.frozen 1
  have cx1_2_2 : w1.cell? ⟨w.heap.size + 1 + 1, 2, none⟩ = some (.slice none 0 0) := x1_2.cell 2
  have fx1_2_2 : w1.frozen? ⟨w.heap.size + 1 + 1, 2, none⟩ = false := x1_2.frozen 2
  have lx1_2_0 : w.heap.size + 2 < w1.heap.size := by have := x1_2.lt; omega
  have lx1_2_1 : w.heap.size + 1 < w1.heap.size := by have := x1_2.lt; omega
  have lx1_2_2 : w.heap.size < w1.heap.size := by have := x1_2.lt; omega
  have lx1_2_3 : w.heap.size < w1.heap.size + 1 := by have := x1_2.lt; omega
  go_wp2_with fail
  refine bodyPost_ret (v := .agg #[.bool false, .slice none 0 0, .slice none 0 0]) (by simp [results, Try.results80, go_sem, *] <;> first | rfl | exact ⟨rfl, rfl⟩) rfl ?_
  exact ⟨false, none, 0, 0, none, 0, 0, rfl, QV.zero _ _, (((bw1.setCell (p := ⟨w.heap.size + 1 + 1, 0, none⟩) (by dsimp only; omega) (.bool false)).setCell (p := ⟨w.heap.size + 1 + 1, 1, none⟩) (by dsimp only; omega) (.slice none 0 0)).setCell (p := ⟨w.heap.size + 1 + 1, 2, none⟩) (by dsimp only; omega) (.slice none 0 0))⟩
set_option maxRecDepth 100000 in
set_option maxHeartbeats 2000000 in
/-- linkworkref02.form -/
theorem g_form_p (w : World)  (b : Bool) (A : Option Addr) (n c : Nat) (z : Int) (k : Nat) (h : IZ w b A n c z k) (b' : Bool) (A' : Option Addr) (n' c' : Nat) (z' : Int) (k' : Nat) (h' : IZ w b' A' n' c' z' k') (q : Rat) (K : Nat) (hz : z ≠ 0) (hd : z'.sign = 1) (hq : Rat.divInt z z' = q) (hs : Sz q K) (hk : k + k' ≤ 300000000) :
    Calls Try.prog 80 #[.agg #[.bool b, .slice A n c], .agg #[.bool b', .slice A' n' c']] w (RetF w q K) := by
  obtain ⟨s, hs1⟩ : ∃ s, z.sign = s := ⟨_, rfl⟩
  have e0 : ((s : Int) == 0) = false := by simp; rintro rfl; exact hz (Int.sign_eq_zero_iff_zero.1 hs1)
  have HZ := Lib.hid hs1
  have HD := Lib.hid hd
  have HN := Lib.hid (show z ≠ 0 by omega)
  have HP := Lib.hid (show 0 < z' by exact sign_pos hd)
  have HG := Lib.hid (show ((Nat.gcd (z).natAbs (z').natAbs : Nat) : Int) ≠ 0 from gcd_ne HP.out)
  have HM1 := Lib.hid (show z % ((Nat.gcd (z).natAbs (z').natAbs : Nat) : Int) = 0 from Int.emod_eq_zero_of_dvd (Int.ofNat_dvd_left.2 (Nat.gcd_dvd_left _ _)))
  have HM2 := Lib.hid (show z' % ((Nat.gcd (z).natAbs (z').natAbs : Nat) : Int) = 0 from Int.emod_eq_zero_of_dvd (Int.ofNat_dvd_left.2 (Nat.gcd_dvd_right _ _)))
  have HQ := Lib.hid (show Rat.divInt z z' = q by exact hq)
  have HS := Lib.hid hs
  clear hz hd hq hs hs1
  go_enter Try.func80, Try.ntmps80
  go_wp2_with fail
  (with_reducible refine (r01_sign_e _ b A n c (z) (k) ?_ (s) ?_ ?_).mono ?_); (exact (h.belw ((((Below.refl _ _).alloc (Nat.le_refl _) _).alloc (by simp) _).alloc (by simp <;> omega) _))); (exact HZ.out); (omega); rintro e w1 ⟨rfl, hb1⟩
  have q1 : Below w.heap.size w w1 := ((((Below.refl _ _).alloc (Nat.le_refl _) _).alloc (by simp) _).alloc (by simp <;> omega) _).trans (hb1.mono (by simp <;> omega))
  replace h := h.belw q1
  replace h' := h'.belw q1
  have x1_0 : Blk w1 (w.heap.size) 63 #[.bool b, .slice A n c] := (((blkAt _ _ _ (by simp)).alloc _).alloc _).below hb1 (by simp <;> omega)
  have x1_1 : Blk w1 (w.heap.size + 1) 63 #[.bool b', .slice A' n' c'] := ((blkAt _ _ _ (by simp)).alloc _).below hb1 (by simp <;> omega)
  have x1_2 : Blk w1 (w.heap.size + 1 + 1) 24 #[.bool false, .slice none 0 0, .slice none 0 0] := (blkAt _ _ _ (by simp)).below hb1 (by simp)
  have bw1 : Below w.heap.size w w1 := (brefl w).trans (q1.mono (brefl w).size)
  have lw1 : w.heap.size + 3 ≤ w1.heap.size := by have := hb1.size; simp at this; omega
  clear hb1 q1
  have cx1_1_0 : w1.cell? ⟨w.heap.size + 1, 0, none⟩ = some (.bool b') := x1_1.cell 0
  have cx1_1_1 : w1.cell? ⟨w.heap.size + 1, 1, none⟩ = some (.slice A' n' c') := x1_1.cell 1
  have lx1_1_0 : w.heap.size + 1 < w1.heap.size := by have := x1_1.lt; omega
  have lx1_1_1 : w.heap.size < w1.heap.size := by have := x1_1.lt; omega
  have lx1_1_2 : w.heap.size < w1.heap.size + 1 := by have := x1_1.lt; omega
  have lx1_1_3 : w.heap.size < w1.heap.size + 2 := by have := x1_1.lt; omega
  go_wp2_with fail
  (with_reducible refine (r01_sign_e _ b' A' n' c' (z') (k') ?_ (1) ?_ ?_).mono ?_); (exact h'); (exact HD.out); (omega); rintro e w2 ⟨rfl, hb2⟩
  clear cx1_1_0 cx1_1_1 lx1_1_0 lx1_1_1 lx1_1_2 lx1_1_3
  have q2 : Below w1.heap.size w1 w2 := hb2
  replace h := h.belw q2
  replace h' := h'.belw q2
  replace x1_0 : Blk w2 (w.heap.size) 63 #[.bool b, .slice A n c] := x1_0.below q2 x1_0.lt
  replace x1_1 : Blk w2 (w.heap.size + 1) 63 #[.bool b', .slice A' n' c'] := x1_1.below q2 x1_1.lt
  replace x1_2 : Blk w2 (w.heap.size + 1 + 1) 24 #[.bool false, .slice none 0 0, .slice none 0 0] := x1_2.below q2 x1_2.lt
  have bw2 : Below w.heap.size w w2 := bw1.trans (q2.mono bw1.size)
  have lw2 : w1.heap.size ≤ w2.heap.size := q2.size
  clear hb2 q2 bw1
  have cx1_0_0 : w2.cell? ⟨w.heap.size, 0, none⟩ = some (.bool b) := x1_0.cell 0
  have cx1_0_1 : w2.cell? ⟨w.heap.size, 1, none⟩ = some (.slice A n c) := x1_0.cell 1
  have lx1_0_0 : w.heap.size < w2.heap.size := by have := x1_0.lt; omega
  have lx1_0_1 : w.heap.size < w2.heap.size + 1 := by have := x1_0.lt; omega
  have lx1_0_2 : w.heap.size < w2.heap.size + 2 := by have := x1_0.lt; omega
  have lx1_0_3 : w.heap.size < w2.heap.size + 3 := by have := x1_0.lt; omega
  have cx1_1_0 : w2.cell? ⟨w.heap.size + 1, 0, none⟩ = some (.bool b') := x1_1.cell 0
  have cx1_1_1 : w2.cell? ⟨w.heap.size + 1, 1, none⟩ = some (.slice A' n' c') := x1_1.cell 1
  have lx1_1_0 : w.heap.size + 1 < w2.heap.size := by have := x1_1.lt; omega
  have lx1_1_1 : w.heap.size < w2.heap.size := by have := x1_1.lt; omega
  have lx1_1_2 : w.heap.size < w2.heap.size + 1 := by have := x1_1.lt; omega
  have lx1_1_3 : w.heap.size < w2.heap.size + 2 := by have := x1_1.lt; omega
  go_wp2_with fail
  (with_reducible refine (r01_gcd _ b A n c (z) (k) ?_ b' A' n' c' (z') (k') ?_ ?_).mono ?_); (exact h); (exact h'); (first | omega | decide | assumption); rintro e w3 ⟨b3, A3, n3, c3, rfl, h3, hb3⟩
  clear cx1_0_0 cx1_0_1 lx1_0_0 lx1_0_1 lx1_0_2 lx1_0_3 cx1_1_0 cx1_1_1 lx1_1_0 lx1_1_1 lx1_1_2 lx1_1_3
  have q3 : Below w2.heap.size w2 w3 := hb3
  replace h := h.belw q3
  replace h' := h'.belw q3
  replace x1_0 : Blk w3 (w.heap.size) 63 #[.bool b, .slice A n c] := x1_0.below q3 x1_0.lt
  replace x1_1 : Blk w3 (w.heap.size + 1) 63 #[.bool b', .slice A' n' c'] := x1_1.below q3 x1_1.lt
  replace x1_2 : Blk w3 (w.heap.size + 1 + 1) 24 #[.bool false, .slice none 0 0, .slice none 0 0] := x1_2.below q3 x1_2.lt
  have bw3 : Below w.heap.size w w3 := bw2.trans (q3.mono bw2.size)
  have lw3 : w2.heap.size ≤ w3.heap.size := q3.size
  clear hb3 q3 bw2
  have cx1_0_0 : w3.cell? ⟨w.heap.size, 0, none⟩ = some (.bool b) := x1_0.cell 0
  have cx1_0_1 : w3.cell? ⟨w.heap.size, 1, none⟩ = some (.slice A n c) := x1_0.cell 1
  have lx1_0_0 : w.heap.size < w3.heap.size := by have := x1_0.lt; omega
  have lx1_0_1 : w.heap.size < w3.heap.size + 1 := by have := x1_0.lt; omega
  have lx1_0_2 : w.heap.size < w3.heap.size + 2 := by have := x1_0.lt; omega
  have lx1_0_3 : w.heap.size < w3.heap.size + 3 := by have := x1_0.lt; omega
  go_wp2_with fail
  (with_reducible refine (r01_div _ b A n c (z) (k) ?_ b3 A3 n3 c3 ((Nat.gcd ((z)).natAbs ((z')).natAbs : Nat)) ((k) + (k')) ?_  ?_ ?_ ?_).mono ?_); (exact (h.belw ((Below.refl _ _).alloc (Nat.le_refl _) _))); (exact (h3.belw ((Below.refl _ _).alloc (Nat.le_refl _) _)).iz); (omega); (exact HG.out); (exact HM1.out); rintro e w4 ⟨b4, A4, n4, c4, b'4, A'4, n'4, c'4, rfl, h4, h'4, hb4⟩
  clear cx1_0_0 cx1_0_1 lx1_0_0 lx1_0_1 lx1_0_2 lx1_0_3
  have q4 : Below w3.heap.size w3 w4 := ((Below.refl _ _).alloc (Nat.le_refl _) _).trans (hb4.mono (by simp))
  replace h := h.belw q4
  replace h' := h'.belw q4
  replace h3 := h3.belw q4
  replace x1_0 : Blk w4 (w.heap.size) 63 #[.bool b, .slice A n c] := x1_0.below q4 x1_0.lt
  replace x1_1 : Blk w4 (w.heap.size + 1) 63 #[.bool b', .slice A' n' c'] := x1_1.below q4 x1_1.lt
  replace x1_2 : Blk w4 (w.heap.size + 1 + 1) 24 #[.bool false, .slice none 0 0, .slice none 0 0] := x1_2.below q4 x1_2.lt
  have x4_0 : Blk w4 (w3.heap.size) 63 #[.bool b3, .slice A3 n3 c3] := (blkAt _ _ _ (by simp)).below hb4 (by simp)
  have bw4 : Below w.heap.size w w4 := bw3.trans (q4.mono bw3.size)
  have lw4 : w3.heap.size + 1 ≤ w4.heap.size := by have := hb4.size; simp at this; omega
  clear hb4 q4 bw3
  have cx1_1_0 : w4.cell? ⟨w.heap.size + 1, 0, none⟩ = some (.bool b') := x1_1.cell 0
  have cx1_1_1 : w4.cell? ⟨w.heap.size + 1, 1, none⟩ = some (.slice A' n' c') := x1_1.cell 1
  have lx1_1_0 : w.heap.size + 1 < w4.heap.size := by have := x1_1.lt; omega
  have lx1_1_1 : w.heap.size < w4.heap.size := by have := x1_1.lt; omega
  have lx1_1_2 : w.heap.size < w4.heap.size + 1 := by have := x1_1.lt; omega
  have lx1_1_3 : w.heap.size < w4.heap.size + 2 := by have := x1_1.lt; omega
  have cx4_0_0 : w4.cell? ⟨w3.heap.size, 0, none⟩ = some (.bool b3) := x4_0.cell 0
  have cx4_0_1 : w4.cell? ⟨w3.heap.size, 1, none⟩ = some (.slice A3 n3 c3) := x4_0.cell 1
  have lx4_0_0 : w3.heap.size < w4.heap.size := by have := x4_0.lt; omega
  have lx4_0_1 : w3.heap.size < w4.heap.size + 1 := by have := x4_0.lt; omega
  have lx4_0_2 : w3.heap.size < w4.heap.size + 2 := by have := x4_0.lt; omega
  have lx4_0_3 : w3.heap.size < w4.heap.size + 3 := by have := x4_0.lt; omega
  go_wp2_with fail
  (with_reducible refine (r01_div _ b' A' n' c' (z') (k') ?_ b3 A3 n3 c3 ((Nat.gcd ((z)).natAbs ((z')).natAbs : Nat)) ((k) + (k')) ?_  ?_ ?_ ?_).mono ?_); (exact (h'.belw (((Below.refl _ _).alloc (Nat.le_refl _) _).alloc (by simp) _))); (exact (h3.belw (((Below.refl _ _).alloc (Nat.le_refl _) _).alloc (by simp) _)).iz); (omega); (exact HG.out); (exact HM2.out); rintro e w5 ⟨b5, A5, n5, c5, b'5, A'5, n'5, c'5, rfl, h5, h'5, hb5⟩
  clear cx1_1_0 cx1_1_1 lx1_1_0 lx1_1_1 lx1_1_2 lx1_1_3 cx4_0_0 cx4_0_1 lx4_0_0 lx4_0_1 lx4_0_2 lx4_0_3
  have q5 : Below w4.heap.size w4 w5 := (((Below.refl _ _).alloc (Nat.le_refl _) _).alloc (by simp) _).trans (hb5.mono (by simp <;> omega))
  replace h := h.belw q5
  replace h' := h'.belw q5
  replace h3 := h3.belw q5
  replace h4 := h4.belw q5
  replace h'4 := h'4.belw q5
  replace x1_0 : Blk w5 (w.heap.size) 63 #[.bool b, .slice A n c] := x1_0.below q5 x1_0.lt
  replace x1_1 : Blk w5 (w.heap.size + 1) 63 #[.bool b', .slice A' n' c'] := x1_1.below q5 x1_1.lt
  replace x1_2 : Blk w5 (w.heap.size + 1 + 1) 24 #[.bool false, .slice none 0 0, .slice none 0 0] := x1_2.below q5 x1_2.lt
  replace x4_0 : Blk w5 (w3.heap.size) 63 #[.bool b3, .slice A3 n3 c3] := x4_0.below q5 x4_0.lt
  have x5_0 : Blk w5 (w4.heap.size) 63 #[.bool b4, .slice A4 n4 c4] := ((blkAt _ _ _ (by simp)).alloc _).below hb5 (by simp <;> omega)
  have x5_1 : Blk w5 (w4.heap.size + 1) 63 #[.bool b'4, .slice A'4 n'4 c'4] := (blkAt _ _ _ (by simp)).below hb5 (by simp)
  have bw5 : Below w.heap.size w w5 := bw4.trans (q5.mono bw4.size)
  have lw5 : w4.heap.size + 2 ≤ w5.heap.size := by have := hb5.size; simp at this; omega
  clear hb5 q5 bw4
  have cx1_2_0 : w5.cell? ⟨w.heap.size + 1 + 1, 0, none⟩ = some (.bool false) := x1_2.cell 0
  have fx1_2_0 : w5.frozen? ⟨w.heap.size + 1 + 1, 0, none⟩ = false := x1_2.frozen 0
  have cx1_2_1 : w5.cell? ⟨w.heap.size + 1 + 1, 1, none⟩ = some (.slice none 0 0) := x1_2.cell 1
  have fx1_2_1 : w5.frozen? ⟨w.heap.size + 1 + 1, 1, none⟩ = false := x1_2.frozen 1
  have cx1_2_2 : w5.cell? ⟨w.heap.size + 1 + 1, 2, none⟩ = some (.slice none 0 0) := x1_2.cell 2
  have fx1_2_2 : w5.frozen? ⟨w.heap.size + 1 + 1, 2, none⟩ = false := x1_2.frozen 2
  have lx1_2_0 : w.heap.size + 2 < w5.heap.size := by have := x1_2.lt; omega
  have lx1_2_1 : w.heap.size + 1 < w5.heap.size := by have := x1_2.lt; omega
  have lx1_2_2 : w.heap.size < w5.heap.size := by have := x1_2.lt; omega
  have lx1_2_3 : w.heap.size < w5.heap.size + 1 := by have := x1_2.lt; omega
  have cx5_0_0 : w5.cell? ⟨w4.heap.size, 0, none⟩ = some (.bool b4) := x5_0.cell 0
  have cx5_0_1 : w5.cell? ⟨w4.heap.size, 1, none⟩ = some (.slice A4 n4 c4) := x5_0.cell 1
  have lx5_0_0 : w4.heap.size < w5.heap.size := by have := x5_0.lt; omega
  have lx5_0_1 : w4.heap.size < w5.heap.size + 1 := by have := x5_0.lt; omega
  have lx5_0_2 : w4.heap.size < w5.heap.size + 2 := by have := x5_0.lt; omega
  have lx5_0_3 : w4.heap.size < w5.heap.size + 3 := by have := x5_0.lt; omega
  go_wp2_with fail
  refine bodyPost_ret (v := .agg #[.bool b4, .slice A4 n4 c4, .slice A5 n5 c5]) (by simp [results, Try.results80, go_sem, *] <;> first | rfl | exact ⟨rfl, rfl⟩) rfl ?_
  obtain ⟨e1, e2, e3⟩ := form_any HN.out HP.out HQ.out
  exact ⟨_, _, _, _, _, _, _, rfl, QV.mk_ (by rw [e1]; exact h4.2.1.keep ((((((Kp.refl w5).setB (p := ⟨w.heap.size + 1 + 1, 0, none⟩) x1_2.box (by decide) (.bool b4)).setB (p := ⟨w.heap.size + 1 + 1, 1, none⟩) (x1_2.box.set ⟨w.heap.size + 1 + 1, 0, none⟩ (.bool b4)) (by decide) (.slice A4 n4 c4)).setB (p := ⟨w.heap.size + 1 + 1, 2, none⟩) ((x1_2.box.set ⟨w.heap.size + 1 + 1, 0, none⟩ (.bool b4)).set ⟨w.heap.size + 1 + 1, 1, none⟩ (.slice A4 n4 c4)) (by decide) (.slice A5 n5 c5)).alloc (.cells #[.bool b5, .slice A5 n5 c5] 63)).alloc (.cells #[.bool b'5, .slice A'5 n'5 c'5] 63))) (by rw [e2]; exact h5.2.1.keep ((((((Kp.refl w5).setB (p := ⟨w.heap.size + 1 + 1, 0, none⟩) x1_2.box (by decide) (.bool b4)).setB (p := ⟨w.heap.size + 1 + 1, 1, none⟩) (x1_2.box.set ⟨w.heap.size + 1 + 1, 0, none⟩ (.bool b4)) (by decide) (.slice A4 n4 c4)).setB (p := ⟨w.heap.size + 1 + 1, 2, none⟩) ((x1_2.box.set ⟨w.heap.size + 1 + 1, 0, none⟩ (.bool b4)).set ⟨w.heap.size + 1 + 1, 1, none⟩ (.slice A4 n4 c4)) (by decide) (.slice A5 n5 c5)).alloc (.cells #[.bool b5, .slice A5 n5 c5] 63)).alloc (.cells #[.bool b'5, .slice A'5 n'5 c'5] 63))) (by rw [e3]; exact h4.1.symm) HS.out, (((((bw5.setCell (p := ⟨w.heap.size + 1 + 1, 0, none⟩) (by dsimp only; omega) (.bool b4)).setCell (p := ⟨w.heap.size + 1 + 1, 1, none⟩) (by dsimp only; omega) (.slice A4 n4 c4)).setCell (p := ⟨w.heap.size + 1 + 1, 2, none⟩) (by dsimp only; omega) (.slice A5 n5 c5)).alloc (by first | omega | (simp <;> omega)) (.cells #[.bool b5, .slice A5 n5 c5] 63)).alloc (by first | omega | (simp <;> omega)) (.cells #[.bool b'5, .slice A'5 n'5 c'5] 63))⟩
set_option maxRecDepth 100000 in
set_option maxHeartbeats 2000000 in
/-- linkworkref02.form -/
theorem g_form_n (w : World)  (b : Bool) (A : Option Addr) (n c : Nat) (z : Int) (k : Nat) (h : IZ w b A n c z k) (b' : Bool) (A' : Option Addr) (n' c' : Nat) (z' : Int) (k' : Nat) (h' : IZ w b' A' n' c' z' k') (q : Rat) (K : Nat) (hz : z ≠ 0) (hd : z'.sign = -1) (hq : Rat.divInt z z' = q) (hs : Sz q K) (hk : k + k' ≤ 300000000) :
    Calls Try.prog 80 #[.agg #[.bool b, .slice A n c], .agg #[.bool b', .slice A' n' c']] w (RetF w q K) := by
  obtain ⟨s, hs1⟩ : ∃ s, z.sign = s := ⟨_, rfl⟩
  have e0 : ((s : Int) == 0) = false := by simp; rintro rfl; exact hz (Int.sign_eq_zero_iff_zero.1 hs1)
  have HZ := Lib.hid hs1
  have HD := Lib.hid hd
  have HN := Lib.hid (show (-z) ≠ 0 by omega)
  have HP := Lib.hid (show 0 < (-z') by exact sign_neg_ hd)
  have HG := Lib.hid (show ((Nat.gcd ((-z)).natAbs ((-z')).natAbs : Nat) : Int) ≠ 0 from gcd_ne HP.out)
  have HM1 := Lib.hid (show (-z) % ((Nat.gcd ((-z)).natAbs ((-z')).natAbs : Nat) : Int) = 0 from Int.emod_eq_zero_of_dvd (Int.ofNat_dvd_left.2 (Nat.gcd_dvd_left _ _)))
  have HM2 := Lib.hid (show (-z') % ((Nat.gcd ((-z)).natAbs ((-z')).natAbs : Nat) : Int) = 0 from Int.emod_eq_zero_of_dvd (Int.ofNat_dvd_left.2 (Nat.gcd_dvd_right _ _)))
  have HQ := Lib.hid (show Rat.divInt (-z) (-z') = q by rw [divInt_neg_neg _ _ (sign_ne hd)]; exact hq)
  have HS := Lib.hid hs
  clear hz hd hq hs hs1
  go_enter Try.func80, Try.ntmps80
  go_wp2_with fail
  (with_reducible refine (r01_sign_e _ b A n c (z) (k) ?_ (s) ?_ ?_).mono ?_); (exact (h.belw ((((Below.refl _ _).alloc (Nat.le_refl _) _).alloc (by simp) _).alloc (by simp <;> omega) _))); (exact HZ.out); (omega); rintro e w1 ⟨rfl, hb1⟩
  have q1 : Below w.heap.size w w1 := ((((Below.refl _ _).alloc (Nat.le_refl _) _).alloc (by simp) _).alloc (by simp <;> omega) _).trans (hb1.mono (by simp <;> omega))
  replace h := h.belw q1
  replace h' := h'.belw q1
  have x1_0 : Blk w1 (w.heap.size) 63 #[.bool b, .slice A n c] := (((blkAt _ _ _ (by simp)).alloc _).alloc _).below hb1 (by simp <;> omega)
  have x1_1 : Blk w1 (w.heap.size + 1) 63 #[.bool b', .slice A' n' c'] := ((blkAt _ _ _ (by simp)).alloc _).below hb1 (by simp <;> omega)
  have x1_2 : Blk w1 (w.heap.size + 1 + 1) 24 #[.bool false, .slice none 0 0, .slice none 0 0] := (blkAt _ _ _ (by simp)).below hb1 (by simp)
  have bw1 : Below w.heap.size w w1 := (brefl w).trans (q1.mono (brefl w).size)
  have lw1 : w.heap.size + 3 ≤ w1.heap.size := by have := hb1.size; simp at this; omega
  clear hb1 q1
  have cx1_1_0 : w1.cell? ⟨w.heap.size + 1, 0, none⟩ = some (.bool b') := x1_1.cell 0
  have cx1_1_1 : w1.cell? ⟨w.heap.size + 1, 1, none⟩ = some (.slice A' n' c') := x1_1.cell 1
  have lx1_1_0 : w.heap.size + 1 < w1.heap.size := by have := x1_1.lt; omega
  have lx1_1_1 : w.heap.size < w1.heap.size := by have := x1_1.lt; omega
  have lx1_1_2 : w.heap.size < w1.heap.size + 1 := by have := x1_1.lt; omega
  have lx1_1_3 : w.heap.size < w1.heap.size + 2 := by have := x1_1.lt; omega
  go_wp2_with fail
  (with_reducible refine (r01_sign_e _ b' A' n' c' (z') (k') ?_ (-1) ?_ ?_).mono ?_); (exact h'); (exact HD.out); (omega); rintro e w2 ⟨rfl, hb2⟩
  clear cx1_1_0 cx1_1_1 lx1_1_0 lx1_1_1 lx1_1_2 lx1_1_3
  have q2 : Below w1.heap.size w1 w2 := hb2
  replace h := h.belw q2
  replace h' := h'.belw q2
  replace x1_0 : Blk w2 (w.heap.size) 63 #[.bool b, .slice A n c] := x1_0.below q2 x1_0.lt
  replace x1_1 : Blk w2 (w.heap.size + 1) 63 #[.bool b', .slice A' n' c'] := x1_1.below q2 x1_1.lt
  replace x1_2 : Blk w2 (w.heap.size + 1 + 1) 24 #[.bool false, .slice none 0 0, .slice none 0 0] := x1_2.below q2 x1_2.lt
  have bw2 : Below w.heap.size w w2 := bw1.trans (q2.mono bw1.size)
  have lw2 : w1.heap.size ≤ w2.heap.size := q2.size
  clear hb2 q2 bw1
  go_wp2_with fail
  have cx1_0_0 : w2.cell? ⟨w.heap.size, 0, none⟩ = some (.bool b) := x1_0.cell 0
  have cx1_0_1 : w2.cell? ⟨w.heap.size, 1, none⟩ = some (.slice A n c) := x1_0.cell 1
  have cx1_1_0 : w2.cell? ⟨w.heap.size + 1, 0, none⟩ = some (.bool b') := x1_1.cell 0
  have cx1_1_1 : w2.cell? ⟨w.heap.size + 1, 1, none⟩ = some (.slice A' n' c') := x1_1.cell 1
  go_cut [2] (fun s2 wx => s2 = .pointer (some ⟨w.heap.size, 0, none⟩) ∧ ∃ b8 A8 n8 c8 b9 A9 n9 c9, Blk wx (w.heap.size) 63 #[.bool b8, .slice A8 n8 c8] ∧ Blk wx (w.heap.size + 1) 63 #[.bool b9, .slice A9 n9 c9] ∧ Blk wx (w.heap.size + 1 + 1) 24 #[.bool false, .slice none 0 0, .slice none 0 0] ∧ IV wx b8 A8 n8 c8 (-z) k ∧ IV wx b9 A9 n9 c9 (-z') k' ∧ Below w.heap.size w wx ∧ w2.heap.size ≤ wx.heap.size)
  case first =>
    go_region_with (first
      | (go_at_call 94; (with_reducible refine (r01_neg _ b A n c (z) (k) ?_ ?_).mono ?_); (exact h); (omega); rintro e w3 ⟨b4, A4, n4, c4, rfl, h4, hb4⟩; replace hb4 := bnext (below_drewN (brefl _) 1) hb4; replace h' := h'.belw hb4; have bw4 := bw2.trans (hb4.mono bw2.size); have lw4 := hb4.size; replace x1_0 : Blk w3 (w.heap.size) 63 #[.bool b, .slice A n c] := x1_0.below hb4 x1_0.lt; replace x1_1 : Blk w3 (w.heap.size + 1) 63 #[.bool b', .slice A' n' c'] := x1_1.below hb4 x1_1.lt; replace x1_2 : Blk w3 (w.heap.size + 1 + 1) 24 #[.bool false, .slice none 0 0, .slice none 0 0] := x1_2.below hb4 x1_2.lt; have dx1_1_0 : w3.cell? ⟨w.heap.size + 1, 0, none⟩ = some (.bool b') := x1_1.cell 0; have dx1_1_1 : w3.cell? ⟨w.heap.size + 1, 1, none⟩ = some (.slice A' n' c') := x1_1.cell 1)
      | (go_at_call 94; (with_reducible refine (r01_neg _ b' A' n' c' (z') (k') ?_ ?_).mono ?_); (exact h'); (omega); rintro e w4 ⟨b5, A5, n5, c5, rfl, h5, hb5⟩; replace h4 := h4.belw hb5; have bw5 := bw4.trans (hb5.mono bw4.size); have lw5 := hb5.size; replace x1_0 : Blk w4 (w.heap.size) 63 #[.bool b, .slice A n c] := x1_0.below hb5 x1_0.lt; replace x1_1 : Blk w4 (w.heap.size + 1) 63 #[.bool b', .slice A' n' c'] := x1_1.below hb5 x1_1.lt; replace x1_2 : Blk w4 (w.heap.size + 1 + 1) 24 #[.bool false, .slice none 0 0, .slice none 0 0] := x1_2.below hb5 x1_2.lt; have ex1_0_0 : w4.cell? ⟨w.heap.size, 0, none⟩ = some (.bool b) := x1_0.cell 0; have ex1_0_1 : w4.cell? ⟨w.heap.size, 1, none⟩ = some (.slice A n c) := x1_0.cell 1; have fx1_0_0 : w4.frozen? ⟨w.heap.size, 0, none⟩ = false := x1_0.frozen 0; have fx1_0_1 : w4.frozen? ⟨w.heap.size, 1, none⟩ = false := x1_0.frozen 1; have ex1_1_0 : w4.cell? ⟨w.heap.size + 1, 0, none⟩ = some (.bool b') := x1_1.cell 0; have ex1_1_1 : w4.cell? ⟨w.heap.size + 1, 1, none⟩ = some (.slice A' n' c') := x1_1.cell 1; have fx1_1_0 : w4.frozen? ⟨w.heap.size + 1, 0, none⟩ = false := x1_1.frozen 0; have fx1_1_1 : w4.frozen? ⟨w.heap.size + 1, 1, none⟩ = false := x1_1.frozen 1))
    all_goals
      go_wp2_with fail
      go_meet
      have kp := (((((Kp.refl w4).setB (p := ⟨w.heap.size, 0, none⟩) x1_0.box (by decide) (.bool b4)).setB (p := ⟨w.heap.size, 1, none⟩) (x1_0.box.set ⟨w.heap.size, 0, none⟩ (.bool b4)) (by decide) (.slice A4 n4 c4)).setB (p := ⟨w.heap.size + 1, 0, none⟩) ((x1_1.box.set ⟨w.heap.size, 0, none⟩ (.bool b4)).set ⟨w.heap.size, 1, none⟩ (.slice A4 n4 c4)) (by decide) (.bool b5)).setB (p := ⟨w.heap.size + 1, 1, none⟩) (((x1_1.box.set ⟨w.heap.size, 0, none⟩ (.bool b4)).set ⟨w.heap.size, 1, none⟩ (.slice A4 n4 c4)).set ⟨w.heap.size + 1, 0, none⟩ (.bool b5)) (by decide) (.slice A5 n5 c5))
      exact ⟨rfl, b4, A4, n4, c4, b5, A5, n5, c5, ((((x1_0.set_at 0 (.bool b4) #[.bool b4, .slice A n c] (by simp)).set_at 1 (.slice A4 n4 c4) #[.bool b4, .slice A4 n4 c4] (by simp)).far (p := ⟨w.heap.size + 1, 0, none⟩) (by dsimp only; omega) (.bool b5)).far (p := ⟨w.heap.size + 1, 1, none⟩) (by dsimp only; omega) (.slice A5 n5 c5)), ((((x1_1.far (p := ⟨w.heap.size, 0, none⟩) (by dsimp only; omega) (.bool b4)).far (p := ⟨w.heap.size, 1, none⟩) (by dsimp only; omega) (.slice A4 n4 c4)).set_at 0 (.bool b5) #[.bool b5, .slice A' n' c'] (by simp)).set_at 1 (.slice A5 n5 c5) #[.bool b5, .slice A5 n5 c5] (by simp)), ((((x1_2.far (p := ⟨w.heap.size, 0, none⟩) (by dsimp only; omega) (.bool b4)).far (p := ⟨w.heap.size, 1, none⟩) (by dsimp only; omega) (.slice A4 n4 c4)).far (p := ⟨w.heap.size + 1, 0, none⟩) (by dsimp only; omega) (.bool b5)).far (p := ⟨w.heap.size + 1, 1, none⟩) (by dsimp only; omega) (.slice A5 n5 c5)), h4.keep kp, h5.keep kp, ((((bw5.setCell (p := ⟨w.heap.size, 0, none⟩) (by dsimp only; omega) (.bool b4)).setCell (p := ⟨w.heap.size, 1, none⟩) (by dsimp only; omega) (.slice A4 n4 c4)).setCell (p := ⟨w.heap.size + 1, 0, none⟩) (by dsimp only; omega) (.bool b5)).setCell (p := ⟨w.heap.size + 1, 1, none⟩) (by dsimp only; omega) (.slice A5 n5 c5)), by simp [World.setCell]; omega⟩
  case rest =>
    clear h h'
    obtain ⟨rfl, b8, A8, n8, c8, b9, A9, n9, c9, y0, y1, y2, h8, h9, bwc, lwc⟩ := hcut
    clear x1_0 x1_1 x1_2
    have cy0_0 : wc.cell? ⟨w.heap.size, 0, none⟩ = some (.bool b8) := y0.cell 0
    have cy0_1 : wc.cell? ⟨w.heap.size, 1, none⟩ = some (.slice A8 n8 c8) := y0.cell 1
    have ly0_0 : w.heap.size < wc.heap.size := by have := y0.lt; omega
    have ly0_1 : w.heap.size < wc.heap.size + 1 := by have := y0.lt; omega
    have ly0_2 : w.heap.size < wc.heap.size + 2 := by have := y0.lt; omega
    have ly0_3 : w.heap.size < wc.heap.size + 3 := by have := y0.lt; omega
    have cy1_0 : wc.cell? ⟨w.heap.size + 1, 0, none⟩ = some (.bool b9) := y1.cell 0
    have cy1_1 : wc.cell? ⟨w.heap.size + 1, 1, none⟩ = some (.slice A9 n9 c9) := y1.cell 1
    have ly1_0 : w.heap.size + 1 < wc.heap.size := by have := y1.lt; omega
    have ly1_1 : w.heap.size < wc.heap.size := by have := y1.lt; omega
    have ly1_2 : w.heap.size < wc.heap.size + 1 := by have := y1.lt; omega
    have ly1_3 : w.heap.size < wc.heap.size + 2 := by have := y1.lt; omega
    go_wp2_with fail
    (with_reducible refine (r01_gcd _ b8 A8 n8 c8 (-z) (k) ?_ b9 A9 n9 c9 (-z') (k') ?_ ?_).mono ?_); (exact h8.iz); (exact h9.iz); (first | omega | decide | assumption); rintro e w13 ⟨b13, A13, n13, c13, rfl, h13, hb13⟩
    clear cy0_0 cy0_1 ly0_0 ly0_1 ly0_2 ly0_3 cy1_0 cy1_1 ly1_0 ly1_1 ly1_2 ly1_3
    have q13 : Below wc.heap.size wc w13 := hb13
    replace h8 := h8.belw q13
    replace h9 := h9.belw q13
    replace y0 : Blk w13 (w.heap.size) 63 #[.bool b8, .slice A8 n8 c8] := y0.below q13 y0.lt
    replace y1 : Blk w13 (w.heap.size + 1) 63 #[.bool b9, .slice A9 n9 c9] := y1.below q13 y1.lt
    replace y2 : Blk w13 (w.heap.size + 1 + 1) 24 #[.bool false, .slice none 0 0, .slice none 0 0] := y2.below q13 y2.lt
    have bw13 : Below w.heap.size w w13 := bwc.trans (q13.mono bwc.size)
    have lw13 : wc.heap.size ≤ w13.heap.size := q13.size
    clear hb13 q13
    have cy0_0 : w13.cell? ⟨w.heap.size, 0, none⟩ = some (.bool b8) := y0.cell 0
    have cy0_1 : w13.cell? ⟨w.heap.size, 1, none⟩ = some (.slice A8 n8 c8) := y0.cell 1
    have ly0_0 : w.heap.size < w13.heap.size := by have := y0.lt; omega
    have ly0_1 : w.heap.size < w13.heap.size + 1 := by have := y0.lt; omega
    have ly0_2 : w.heap.size < w13.heap.size + 2 := by have := y0.lt; omega
    have ly0_3 : w.heap.size < w13.heap.size + 3 := by have := y0.lt; omega
    go_wp2_with fail
    (with_reducible refine (r01_div _ b8 A8 n8 c8 (-z) (k) ?_ b13 A13 n13 c13 ((Nat.gcd ((-z)).natAbs ((-z')).natAbs : Nat)) ((k) + (k')) ?_  ?_ ?_ ?_).mono ?_); (exact (h8.belw ((Below.refl _ _).alloc (Nat.le_refl _) _)).iz); (exact (h13.belw ((Below.refl _ _).alloc (Nat.le_refl _) _)).iz); (omega); (exact HG.out); (exact HM1.out); rintro e w14 ⟨b14, A14, n14, c14, b'14, A'14, n'14, c'14, rfl, h14, h'14, hb14⟩
    clear cy0_0 cy0_1 ly0_0 ly0_1 ly0_2 ly0_3
    have q14 : Below w13.heap.size w13 w14 := ((Below.refl _ _).alloc (Nat.le_refl _) _).trans (hb14.mono (by simp))
    replace h8 := h8.belw q14
    replace h9 := h9.belw q14
    replace h13 := h13.belw q14
    replace y0 : Blk w14 (w.heap.size) 63 #[.bool b8, .slice A8 n8 c8] := y0.below q14 y0.lt
    replace y1 : Blk w14 (w.heap.size + 1) 63 #[.bool b9, .slice A9 n9 c9] := y1.below q14 y1.lt
    replace y2 : Blk w14 (w.heap.size + 1 + 1) 24 #[.bool false, .slice none 0 0, .slice none 0 0] := y2.below q14 y2.lt
    have x14_0 : Blk w14 (w13.heap.size) 63 #[.bool b13, .slice A13 n13 c13] := (blkAt _ _ _ (by simp)).below hb14 (by simp)
    have bw14 : Below w.heap.size w w14 := bw13.trans (q14.mono bw13.size)
    have lw14 : w13.heap.size + 1 ≤ w14.heap.size := by have := hb14.size; simp at this; omega
    clear hb14 q14 bw13
    have cy1_0 : w14.cell? ⟨w.heap.size + 1, 0, none⟩ = some (.bool b9) := y1.cell 0
    have cy1_1 : w14.cell? ⟨w.heap.size + 1, 1, none⟩ = some (.slice A9 n9 c9) := y1.cell 1
    have ly1_0 : w.heap.size + 1 < w14.heap.size := by have := y1.lt; omega
    have ly1_1 : w.heap.size < w14.heap.size := by have := y1.lt; omega
    have ly1_2 : w.heap.size < w14.heap.size + 1 := by have := y1.lt; omega
    have ly1_3 : w.heap.size < w14.heap.size + 2 := by have := y1.lt; omega
    have cx14_0_0 : w14.cell? ⟨w13.heap.size, 0, none⟩ = some (.bool b13) := x14_0.cell 0
    have cx14_0_1 : w14.cell? ⟨w13.heap.size, 1, none⟩ = some (.slice A13 n13 c13) := x14_0.cell 1
    have lx14_0_0 : w13.heap.size < w14.heap.size := by have := x14_0.lt; omega
    have lx14_0_1 : w13.heap.size < w14.heap.size + 1 := by have := x14_0.lt; omega
    have lx14_0_2 : w13.heap.size < w14.heap.size + 2 := by have := x14_0.lt; omega
    have lx14_0_3 : w13.heap.size < w14.heap.size + 3 := by have := x14_0.lt; omega
    go_wp2_with fail
    (with_reducible refine (r01_div _ b9 A9 n9 c9 (-z') (k') ?_ b13 A13 n13 c13 ((Nat.gcd ((-z)).natAbs ((-z')).natAbs : Nat)) ((k) + (k')) ?_  ?_ ?_ ?_).mono ?_); (exact (h9.belw (((Below.refl _ _).alloc (Nat.le_refl _) _).alloc (by simp) _)).iz); (exact (h13.belw (((Below.refl _ _).alloc (Nat.le_refl _) _).alloc (by simp) _)).iz); (omega); (exact HG.out); (exact HM2.out); rintro e w15 ⟨b15, A15, n15, c15, b'15, A'15, n'15, c'15, rfl, h15, h'15, hb15⟩
    clear cy1_0 cy1_1 ly1_0 ly1_1 ly1_2 ly1_3 cx14_0_0 cx14_0_1 lx14_0_0 lx14_0_1 lx14_0_2 lx14_0_3
    have q15 : Below w14.heap.size w14 w15 := (((Below.refl _ _).alloc (Nat.le_refl _) _).alloc (by simp) _).trans (hb15.mono (by simp <;> omega))
    replace h8 := h8.belw q15
    replace h9 := h9.belw q15
    replace h13 := h13.belw q15
    replace h14 := h14.belw q15
    replace h'14 := h'14.belw q15
    replace y0 : Blk w15 (w.heap.size) 63 #[.bool b8, .slice A8 n8 c8] := y0.below q15 y0.lt
    replace y1 : Blk w15 (w.heap.size + 1) 63 #[.bool b9, .slice A9 n9 c9] := y1.below q15 y1.lt
    replace y2 : Blk w15 (w.heap.size + 1 + 1) 24 #[.bool false, .slice none 0 0, .slice none 0 0] := y2.below q15 y2.lt
    replace x14_0 : Blk w15 (w13.heap.size) 63 #[.bool b13, .slice A13 n13 c13] := x14_0.below q15 x14_0.lt
    have x15_0 : Blk w15 (w14.heap.size) 63 #[.bool b14, .slice A14 n14 c14] := ((blkAt _ _ _ (by simp)).alloc _).below hb15 (by simp <;> omega)
    have x15_1 : Blk w15 (w14.heap.size + 1) 63 #[.bool b'14, .slice A'14 n'14 c'14] := (blkAt _ _ _ (by simp)).below hb15 (by simp)
    have bw15 : Below w.heap.size w w15 := bw14.trans (q15.mono bw14.size)
    have lw15 : w14.heap.size + 2 ≤ w15.heap.size := by have := hb15.size; simp at this; omega
    clear hb15 q15 bw14
    have cy2_0 : w15.cell? ⟨w.heap.size + 1 + 1, 0, none⟩ = some (.bool false) := y2.cell 0
    have fy2_0 : w15.frozen? ⟨w.heap.size + 1 + 1, 0, none⟩ = false := y2.frozen 0
    have cy2_1 : w15.cell? ⟨w.heap.size + 1 + 1, 1, none⟩ = some (.slice none 0 0) := y2.cell 1
    have fy2_1 : w15.frozen? ⟨w.heap.size + 1 + 1, 1, none⟩ = false := y2.frozen 1
    have cy2_2 : w15.cell? ⟨w.heap.size + 1 + 1, 2, none⟩ = some (.slice none 0 0) := y2.cell 2
    have fy2_2 : w15.frozen? ⟨w.heap.size + 1 + 1, 2, none⟩ = false := y2.frozen 2
    have ly2_0 : w.heap.size + 2 < w15.heap.size := by have := y2.lt; omega
    have ly2_1 : w.heap.size + 1 < w15.heap.size := by have := y2.lt; omega
    have ly2_2 : w.heap.size < w15.heap.size := by have := y2.lt; omega
    have ly2_3 : w.heap.size < w15.heap.size + 1 := by have := y2.lt; omega
    have cx15_0_0 : w15.cell? ⟨w14.heap.size, 0, none⟩ = some (.bool b14) := x15_0.cell 0
    have cx15_0_1 : w15.cell? ⟨w14.heap.size, 1, none⟩ = some (.slice A14 n14 c14) := x15_0.cell 1
    have lx15_0_0 : w14.heap.size < w15.heap.size := by have := x15_0.lt; omega
    have lx15_0_1 : w14.heap.size < w15.heap.size + 1 := by have := x15_0.lt; omega
    have lx15_0_2 : w14.heap.size < w15.heap.size + 2 := by have := x15_0.lt; omega
    have lx15_0_3 : w14.heap.size < w15.heap.size + 3 := by have := x15_0.lt; omega
    go_wp2_with fail
    refine bodyPost_ret (v := .agg #[.bool b14, .slice A14 n14 c14, .slice A15 n15 c15]) (by simp [results, Try.results80, go_sem, *] <;> first | rfl | exact ⟨rfl, rfl⟩) rfl ?_
    obtain ⟨e1, e2, e3⟩ := form_any HN.out HP.out HQ.out
    exact ⟨_, _, _, _, _, _, _, rfl, QV.mk_ (by rw [e1]; exact h14.2.1.keep ((((((Kp.refl w15).setB (p := ⟨w.heap.size + 1 + 1, 0, none⟩) y2.box (by decide) (.bool b14)).setB (p := ⟨w.heap.size + 1 + 1, 1, none⟩) (y2.box.set ⟨w.heap.size + 1 + 1, 0, none⟩ (.bool b14)) (by decide) (.slice A14 n14 c14)).setB (p := ⟨w.heap.size + 1 + 1, 2, none⟩) ((y2.box.set ⟨w.heap.size + 1 + 1, 0, none⟩ (.bool b14)).set ⟨w.heap.size + 1 + 1, 1, none⟩ (.slice A14 n14 c14)) (by decide) (.slice A15 n15 c15)).alloc (.cells #[.bool b15, .slice A15 n15 c15] 63)).alloc (.cells #[.bool b'15, .slice A'15 n'15 c'15] 63))) (by rw [e2]; exact h15.2.1.keep ((((((Kp.refl w15).setB (p := ⟨w.heap.size + 1 + 1, 0, none⟩) y2.box (by decide) (.bool b14)).setB (p := ⟨w.heap.size + 1 + 1, 1, none⟩) (y2.box.set ⟨w.heap.size + 1 + 1, 0, none⟩ (.bool b14)) (by decide) (.slice A14 n14 c14)).setB (p := ⟨w.heap.size + 1 + 1, 2, none⟩) ((y2.box.set ⟨w.heap.size + 1 + 1, 0, none⟩ (.bool b14)).set ⟨w.heap.size + 1 + 1, 1, none⟩ (.slice A14 n14 c14)) (by decide) (.slice A15 n15 c15)).alloc (.cells #[.bool b15, .slice A15 n15 c15] 63)).alloc (.cells #[.bool b'15, .slice A'15 n'15 c'15] 63))) (by rw [e3]; exact h14.1.symm) HS.out, (((((bw15.setCell (p := ⟨w.heap.size + 1 + 1, 0, none⟩) (by dsimp only; omega) (.bool b14)).setCell (p := ⟨w.heap.size + 1 + 1, 1, none⟩) (by dsimp only; omega) (.slice A14 n14 c14)).setCell (p := ⟨w.heap.size + 1 + 1, 2, none⟩) (by dsimp only; omega) (.slice A15 n15 c15)).alloc (by first | omega | (simp <;> omega)) (.cells #[.bool b15, .slice A15 n15 c15] 63)).alloc (by first | omega | (simp <;> omega)) (.cells #[.bool b'15, .slice A'15 n'15 c'15] 63))⟩
theorem g_form (w : World)  (b : Bool) (A : Option Addr) (n c : Nat) (z : Int) (k : Nat) (h : IZ w b A n c z k) (b' : Bool) (A' : Option Addr) (n' c' : Nat) (z' : Int) (k' : Nat) (h' : IZ w b' A' n' c' z' k') (q : Rat) (K : Nat) (hd : z' ≠ 0) (hq : Rat.divInt z z' = q) (hs : Sz q K) (hk : k + k' ≤ 300000000) :
    Calls Try.prog 80 #[.agg #[.bool b, .slice A n c], .agg #[.bool b', .slice A' n' c']] w (RetF w q K) := by
  by_cases s : z = 0
  · rw [← hq, s, Rat.zero_divInt]; exact g_form_0 w b A n c z k h b' A' n' c' z' k' h' K s hk
  · rcases sign3 z' with t | t | t
    · exact absurd t hd
    · exact g_form_p w b A n c z k h b' A' n' c' z' k' h' q K s t hq hs hk
    · exact g_form_n w b A n c z k h b' A' n' c' z' k' h' q K s t hq hs hk
end Go.Proofs.Ytmneloabphplmaa

/- Walks: the reference's times, Mul. -/
namespace Go.Proofs.Ytmneloabphplmaa
open Go Go.RowKit Bn
attribute [local go_sem ↓] Go.wp_at_zero Go.wp_at_succ
set_option maxHeartbeats 1000000 in
/-- linkworkref01.times -/
theorem r_times_c (w : World) (A : Option Addr) (n c : Nat) (l : List Nat) (wa : Wd w A n c l) (hn : n ≤ 1099511627776) (A' : Option Addr) (n' c' : Nat) (l' : List Nat) (wb : Wd w A' n' c' l') (hn' : n' ≤ 1099511627776) :
    Calls Try.prog 105 #[.slice A n c, .slice A' n' c'] w (RetL w (digs (val l * val l'))) := by
  have HL := Lib.hid wa.2.1
  have HL' := Lib.hid wb.2.1
  go_enter Try.func105, Try.ntmps105
  go_wp2_with (at_make; refine wpList_make_words _ rfl _ _ rfl _ _ _ _ (n + n') rfl rfl (by omega) (by omega) (by omega) ?_)
  go_loopw [18] (fun iv wr => ∃ (i : Nat) (L : List Nat), i ≤ n ∧ iv = .int .i64 (i : Nat) ∧ L.length = n + n' ∧ TimesO l l' L (n + n') n' i ∧ Blk wr w.heap.size 92 (cellsOf L) ∧ Below w.heap.size w wr) (fun iv _ => n - (intOf iv).toNat)
  case atStart =>
    refine ⟨0, List.replicate (n + n') 0, Nat.zero_le _, rfl, by simp, ⟨by intro x hx; rw [List.eq_of_mem_replicate hx]; omega, fun j _ => ?_, ?_⟩, Blk.new _ _ _, (Below.refl _ _).alloc (Nat.le_refl _) _⟩
    · unfold wd; by_cases hj : j < n + n' <;> simp [List.getD, hj]
    · rw [Sm]
      have : ∀ m, Sm (wd (List.replicate (n + n') 0)) m = 0 := by
        intro m
        induction m with
        | zero => rfl
        | succ m ih =>
          rw [Sm, ih]
          unfold wd; by_cases hj : m < n + n' <;> simp [List.getD, hj]
      rw [this]; simp
  case round =>
    obtain ⟨i, L, hi, rfl, hLM, hI, hB, hbel⟩ := hrel
    have hKp := Lib.hid ((Kp.refl w).below hbel)
    have HI := Lib.hid hI
    have HB := Lib.hid hB
    have HLM := Lib.hid hLM
    clear hI hB hLM
    by_cases hkM : i < n
    · obtain ⟨x, hx⟩ : ∃ x, wd l i = x := ⟨_, rfl⟩
      have hx1 : x < 4294967296 := by rw [← hx]; exact wa.lt i
      have HX := Lib.hid hx
      clear hx
      go_wp2_with fail
      obtain ⟨wo, hwo⟩ : ∃ wo : World, wo = wr := ⟨_, rfl⟩
      have HWO := Lib.hid hwo
      clear hwo
      go_loopw [7, 23] (fun cv kv w2 => ∃ (k cr : Nat) (L2 : List Nat), k ≤ n' ∧ kv = .int .i64 (k : Nat) ∧ cv = .int .u64 (cr : Nat) ∧ cr < 4294967296 ∧ L2.length = n + n' ∧ TimesN l l' L2 (n + n') n' i x k cr ∧ Blk w2 w.heap.size 92 (cellsOf L2) ∧ Below w.heap.size w w2) (fun _ kv _ => n' - (intOf kv).toNat)
      case atStart => exact ⟨0, 0, L, Nat.zero_le _, rfl, rfl, by omega, HLM.out, ⟨HI.out.1, HI.out.2.1, by rw [HI.out.2.2]; simp [Sm]⟩, HB.out, hbel⟩
      case round =>
        obtain ⟨k, cr, L2, hk, rfl, rfl, hcr, hLM2, hI2, hB2, hbel2⟩ := hrel
        have hKp2 := Lib.hid ((Kp.refl w).below hbel2)
        have HI2 := Lib.hid hI2
        have HB2 := Lib.hid hB2
        have HLM2 := Lib.hid hLM2
        clear hI2 hB2 hLM2
        by_cases hkk : k < n'
        · obtain ⟨g2, o2, rfl, hgl2, hc2⟩ := (wb.keep hKp2.out).at2 (by omega)
          obtain ⟨g, o, rfl, hgl, hc1⟩ := (wa.keep hKp2.out).at2 (by omega)
          have hcx := hc1 i hkM
          rw [HX.out] at hcx
          clear hc1
          have hcy := hc2 k hkk
          obtain ⟨y, z, hy, hz⟩ : ∃ y z, wd l' k = y ∧ wd L2 (i + k) = z := ⟨_, _, rfl, rfl⟩
          have hy1 : y < 4294967296 := by rw [← hy]; exact wb.lt k
          have hz1 : z < 4294967296 := by rw [← hz]; exact wd_lt HI2.out.1 _
          rw [hy] at hcy
          have hck := HB2.out.cell (i + k)
          rw [cellsOf_get (by rw [HLM2.out]; omega), hz] at hck
          have hfk := HB2.out.frozen (i + k)
          have HY := Lib.hid hy
          have HZ := Lib.hid hz
          clear hy hz hc2
          obtain ⟨p, hp⟩ : ∃ d, IntKind.u64.wrap ((x : Int) * (y : Int)) = d := ⟨_, rfl⟩
          obtain ⟨q, hq⟩ : ∃ d, IntKind.u64.wrap (p + (z : Int)) = d := ⟨_, rfl⟩
          obtain ⟨s, hs⟩ : ∃ d, IntKind.u64.wrap (q + (cr : Int)) = d := ⟨_, rfl⟩
          have HD := Lib.hid (times_word hx1 hy1 hz1 hcr hp hq (show IntKind.u64.wrap ((cr : Int) + q) = s by rw [Int.add_comm]; exact hs))
          go_wp2
          go_quiet (fail)
          go_wp2
          obtain ⟨es, hs2⟩ := HD.out
          clear hp hq hs
          go_roundw
          case rel =>
            refine ⟨k + 1, (cr + x * y + z) / 4294967296, L2.set (i + k) ((cr + x * y + z) % 4294967296), by omega, by go_num, by rw [es]; go_num, hs2, by rw [List.length_set]; exact HLM2.out, ⟨wds_set HI2.out.1 _ (Nat.mod_lt _ (by omega)), ?_, ?_⟩, ?_, (below_drewN hbel2 _).setCell (Nat.le_refl _) _⟩
            · intro j hj; rw [wd_set, if_neg (by omega)]; exact HI2.out.2.1 j hj
            · have hm := Sm_set_mid L2 (i + k) ((cr + x * y + z) % 4294967296) (n + n') (by rw [HLM2.out]; omega) (by omega)
              rw [HZ.out] at hm
              have ht := times_step (o := z) (x := x) (y := y) (Sb := Sm (wd l') k) (Pi := 4294967296 ^ i) (Pk := 4294967296 ^ k) HI2.out.2.2 (by rw [Nat.pow_add]) hm
              rw [← Nat.add_assoc, Nat.pow_succ, Sm, HY.out]
              exact ht
            · exact (HB2.out.below (below_drewN (brefl _) _) HB2.out.lt).setW (i + k) _ _ (by rw [es]; omega)
          case measure => simp [intOf]; omega
        · have hk2 : k = n' := by omega
          have HK2 := Lib.hid hk2
          have hck := HB2.out.cell (i + n')
          have hz : wd L2 (i + n') = 0 := HI2.out.2.1 _ (by omega)
          rw [cellsOf_get (by rw [HLM2.out]; omega), hz] at hck
          have hfk := HB2.out.frozen (i + n')
          have hge : n' ≤ k := by omega
          clear hk2 hkk hz
          go_wp2
          go_roundw
          case rel =>
            refine ⟨i + 1, L2.set (i + n') cr, by omega, by go_num, by rw [List.length_set]; exact HLM2.out, ⟨wds_set HI2.out.1 _ hcr, ?_, ?_⟩, ?_, hbel2.setCell (Nat.le_refl _) _⟩
            · intro j hj; rw [wd_set, if_neg (by omega)]; exact HI2.out.2.1 j (by omega)
            · have hm := Sm_set_mid L2 (i + n') cr (n + n') (by rw [HLM2.out]; omega) (by omega)
              rw [HI2.out.2.1 _ (by omega), Nat.zero_mul, Nat.add_zero] at hm
              have h2 := HI2.out.2.2
              rw [HK2.out, Sm_ge l' (by rw [← HL'.out]; exact Nat.le_refl _)] at h2
              rw [hm, h2, Sm, HX.out, Nat.add_mul]
              congr 1
              rw [Nat.mul_assoc, Nat.mul_comm (val l'), ← Nat.mul_assoc]
            · exact HB2.out.setW (i + n') _ _ rfl
          case measure => simp [intOf]; omega
    · have hkk : i = n := by omega
      subst hkk
      have hv2 : val L = val l * val l' := by
        have h1 := HI.out.2.2
        rw [Sm_ge L (by rw [HLM.out]; exact Nat.le_refl _), Sm_ge l (by rw [← HL.out]; omega)] at h1
        exact h1
      have HV2 := Lib.hid hv2
      clear hv2
      go_wp2_with fail
      refine (r_trim_c _ _ (i + n') (i + n') L ?_ ?_).mono ?_
      · exact HB.out.wdN HI.out.1 HLM.out
      · omega
      rintro e w1 ⟨A1, n1, c1, rfl, h1, hb1⟩
      go_wp2
      go_ret
      rw [HV2.out] at h1
      exact ⟨_, _, _, rfl, h1, hbel.trans (hb1.mono hbel.size)⟩
set_option maxHeartbeats 2000000 in
/-- integer.Mul -/
theorem r_mul_C (w : World) (b : Bool) (A : Option Addr) (n c : Nat) (l : List Nat) (wa : Wd w A n c l) (hn : n ≤ 500000000000) (b' : Bool) (A' : Option Addr) (n' c' : Nat) (l' : List Nat) (wb : Wd w A' n' c' l') (hn' : n' ≤ 500000000000) :
    Calls Try.prog 93 #[.agg #[.bool b, .slice A n c], .agg #[.bool b', .slice A' n' c']] w (RetW w (wh (WD.z ⟨b, l⟩ * WD.z ⟨b', l'⟩))) := by
  have HL := Lib.hid wa.2.1
  have HL' := Lib.hid wb.2.1
  go_enter Try.func93, Try.ntmps93
  go_wp2_with fail
  have b0 : Below w.heap.size w (((w.alloc (.cells #[.bool b, .slice A n c] 63)).alloc (.cells #[.bool b', .slice A' n' c'] 63)).alloc (.cells #[.bool false, .slice none 0 0] 63)) := ((((Below.refl _ _).alloc (Nat.le_refl _) _).alloc (by simp) _).alloc (by simp; omega) _)
  generalize hW0 : (((w.alloc (.cells #[.bool b, .slice A n c] 63)).alloc (.cells #[.bool b', .slice A' n' c'] 63)).alloc (.cells #[.bool false, .slice none 0 0] 63)) = W0 at b0 ⊢
  have c00 : W0.cell? ⟨w.heap.size, 0, none⟩ = some (.bool b) := by subst hW0; simp [go_sem]
  have f00 : W0.frozen? ⟨w.heap.size, 0, none⟩ = false := by subst hW0; simp [go_sem]
  have c01 : W0.cell? ⟨w.heap.size, 1, none⟩ = some (.slice A n c) := by subst hW0; simp [go_sem]
  have f01 : W0.frozen? ⟨w.heap.size, 1, none⟩ = false := by subst hW0; simp [go_sem]
  have c10 : W0.cell? ⟨w.heap.size + 1, 0, none⟩ = some (.bool b') := by subst hW0; simp [go_sem]
  have f10 : W0.frozen? ⟨w.heap.size + 1, 0, none⟩ = false := by subst hW0; simp [go_sem]
  have c11 : W0.cell? ⟨w.heap.size + 1, 1, none⟩ = some (.slice A' n' c') := by subst hW0; simp [go_sem]
  have f11 : W0.frozen? ⟨w.heap.size + 1, 1, none⟩ = false := by subst hW0; simp [go_sem]
  have c20 : W0.cell? ⟨w.heap.size + 1 + 1, 0, none⟩ = some (.bool false) := by subst hW0; simp [go_sem]
  have f20 : W0.frozen? ⟨w.heap.size + 1 + 1, 0, none⟩ = false := by subst hW0; simp [go_sem]
  have c21 : W0.cell? ⟨w.heap.size + 1 + 1, 1, none⟩ = some (.slice none 0 0) := by subst hW0; simp [go_sem]
  have f21 : W0.frozen? ⟨w.heap.size + 1 + 1, 1, none⟩ = false := by subst hW0; simp [go_sem]
  have x0 : Box W0 (w.heap.size) 63 := by subst hW0; exact ((boxAt _ _ _ (by simp)).alloc _).alloc _
  have x1 : Box W0 (w.heap.size + 1) 63 := by subst hW0; exact (boxAt _ _ _ (by simp)).alloc _
  have x2 : Box W0 (w.heap.size + 1 + 1) 63 := by subst hW0; exact boxAt _ _ _ (by simp)
  have hm0 : Made (w.heap.size + 1 + 1) (w.heap.size + 1 + 1 + 1) 2 W0 := by subst hW0; exact made1 (by simp)
  have hs0 : w.heap.size + 1 + 1 + 1 ≤ W0.heap.size := by subst hW0; simp
  clear hW0
  have wa := wa.belw b0
  have wb := wb.belw b0
  have r0 : Below W0.heap.size W0 W0 := brefl _
  have hRB : w.heap.size + 1 + 1 ≤ w.heap.size + 1 + 1 + 1 := by omega
  go_region_held3 (fun w' => Sees (w.heap.size + 1 + 1) W0 w') (first | exact Sees.of (Nat.le_trans hRB hs0) (by assumption) | exact Sees.of (Nat.le_trans hRB hs0) (below_drewN (by assumption) _) | exact (Sees.set (Sees.of (Nat.le_trans hRB hs0) (by assumption)) (by simp)) | exact (Sees.set (Sees.set (Sees.of (Nat.le_trans hRB hs0) (by assumption)) (by simp)) (by simp)))
    (first
      | (go_at_call 85; (with_reducible refine (r_neg_c _ b A n c l ?_ ?_).mono ?_); (exact wa); (omega); rintro e w1 ⟨rfl, hb1⟩; replace hb1 := bnext (below_drewN (brefl _) 1) hb1; have r1 := bnext r0 hb1; replace wa := wa.belw hb1; replace wb := wb.belw hb1)
      | (go_at_call 85; (with_reducible refine (r_neg_c _ b' A' n' c' l' ?_ ?_).mono ?_); (exact wb); (omega); rintro e w2 ⟨rfl, hb2⟩; have r2 := bnext r1 hb2; replace wa := wa.belw hb2; replace wb := wb.belw hb2)
      | (go_at_call 84; (with_reducible refine (r_mag_c _ b A n c l ?_ ?_).mono ?_); (exact wa); (omega); rintro e w3 ⟨A1, n1, c1, rfl, h1, hb3⟩; have r3 := bnext r2 hb3; replace wa := wa.belw hb3; replace wb := wb.belw hb3)
      | (go_at_call 84; (with_reducible refine (r_mag_c _ b' A' n' c' l' ?_ ?_).mono ?_); (exact wb); (omega); rintro e w4 ⟨A2, n2, c2, rfl, h2, hb4⟩; have r4 := bnext r3 hb4; replace wa := wa.belw hb4; replace wb := wb.belw hb4; replace h1 := h1.belw hb4)
      | (go_at_call 105; (with_reducible refine (r_times_c _ A1 n1 c1 (WD.m ⟨b, l⟩) ?_ ?_ A2 n2 c2 (WD.m ⟨b', l'⟩) ?_ ?_).mono ?_); (exact h1); (exact Nat.le_trans (h1.m_len (by rw [← HL.out]; exact hn)) (by decide)); (exact h2); (exact Nat.le_trans (h2.m_len (by rw [← HL'.out]; exact hn')) (by decide)); rintro e w5 ⟨A3, n3, c3, rfl, h3, hb5⟩; have r5 := bnext r4 hb5; replace wa := wa.belw hb5; replace wb := wb.belw hb5; replace h1 := h1.belw hb5; replace h2 := h2.belw hb5)
      | (go_at_call 81; (with_reducible refine (r_form_e _ (!(WD.s ⟨b, l⟩ == WD.s ⟨b', l'⟩)) A3 n3 c3 (digs (val (WD.m ⟨b, l⟩) * val (WD.m ⟨b', l'⟩))) (WD.z ⟨b, l⟩ * WD.z ⟨b', l'⟩) ?_ ?_ ?_).mono ?_); (exact h3); (rw [h3.2.1]; exact times_len h1 h2 (Nat.le_trans (Nat.add_le_add (h1.m_len (by rw [← HL.out]; exact hn)) (h2.m_len (by rw [← HL'.out]; exact hn'))) (by decide))); (rw [val_digs]; exact (z_mul _ _).symm); rintro e w6 ⟨A4, n4, c4, rfl, h4, hb6⟩; have r6 := bnext r5 hb6; replace wa := wa.belw hb6; replace wb := wb.belw hb6; replace h1 := h1.belw hb6; replace h2 := h2.belw hb6; replace h3 := h3.belw hb6; obtain ⟨⟨sc, sf⟩, sr, sz⟩ := Seen.of (by omega) hs0 hm0 r6))
  clear hRB
  go_wp2_with fail
  refine bodyPost_ret (v := .agg #[.bool _, .slice A4 n4 c4]) (by simp [results, Try.results93, go_sem, sr]; rfl) rfl ?_
  have x := x2.below r6
  refine retW ?_ ?_ ?_
  · rfl
  · exact h4.keep (kp2 x (by decide) _ _ _ _)
  · exact ((b0.trans (r6.mono b0.size)).setCell (by dsimp only; omega) _).setCell (by dsimp only; omega) _
end Go.Proofs.Ytmneloabphplmaa

/- The reference's Mul on integers. -/
namespace Go.Proofs.Ytmneloabphplmaa
open Go Go.RowKit Bn
theorem r01_mul (w : World) (b : Bool) (A : Option Addr) (n c : Nat) (z : Int) (k : Nat) (h : IZ w b A n c z k) (b' : Bool) (A' : Option Addr) (n' c' : Nat) (z' : Int) (k' : Nat) (h' : IZ w b' A' n' c' z' k') (hk : k + k' ≤ 1000000000) : Calls Try.prog 93 #[.agg #[.bool b, .slice A n c], .agg #[.bool b', .slice A' n' c']] w (RetI w (z * z') (k + k')) := by
  have hz := h.lt
  have hz' := h'.lt
  obtain ⟨l, h1, rfl, h3⟩ := h
  obtain ⟨l', h1', rfl, h3'⟩ := h'
  exact (r_mul_C w b A n c l h1 (by omega) b' A' n' c' l' h1' (by omega)).mono fun _ _ r => r.i (natAbs_mul_lt hz hz')
end Go.Proofs.Ytmneloabphplmaa

/- Walks: the reference: fractions, sums and differences. -/
namespace Go.Proofs.Ytmneloabphplmaa
open Go Go.RowKit Bn
attribute [local go_sem ↓] Go.wp_at_zero Go.wp_at_succ
set_option maxRecDepth 100000 in
set_option maxHeartbeats 2000000 in
/-- linkworkref02.Neg -/
theorem g_neg (w : World) (b : Bool) (A : Option Addr) (n c : Nat) (D : Option Addr) (m e : Nat) (q : Rat) (k : Nat) (h : QZ w b A n c D m e q k) (h0 : 0 < k) (hk : k ≤ 40000000) :
    Calls Try.prog 78 #[.agg #[.bool b, .slice A n c, .slice D m e]] w (RetF w (-q) k) := by
  have HS := Lib.hid (h.sz h0)
  go_enter Try.func78, Try.ntmps78
  go_wp2_with fail
  (with_reducible refine (g_parts _ b A n c D m e (q) (k) ?_ ?_ ?_).mono ?_); (exact (h.belw (((Below.refl _ _).alloc (Nat.le_refl _) _).alloc (by simp) _))); (first | omega | decide | assumption); (first | omega | decide | assumption); rintro e w1 ⟨b1, A1, n1, c1, b'1, A'1, n'1, c'1, rfl, h1, h'1, hb1⟩
  have q1 : Below w.heap.size w w1 := (((Below.refl _ _).alloc (Nat.le_refl _) _).alloc (by simp) _).trans (hb1.mono (by simp <;> omega))
  replace h := h.belw q1
  have x1_0 : Blk w1 (w.heap.size) 24 #[.bool b, .slice A n c, .slice D m e] := ((blkAt _ _ _ (by simp)).alloc _).below hb1 (by simp <;> omega)
  have x1_1 : Blk w1 (w.heap.size + 1) 24 #[.bool false, .slice none 0 0, .slice none 0 0] := (blkAt _ _ _ (by simp)).below hb1 (by simp)
  have bw1 : Below w.heap.size w w1 := (brefl w).trans (q1.mono (brefl w).size)
  have lw1 : w.heap.size + 2 ≤ w1.heap.size := by have := hb1.size; simp at this; omega
  clear hb1 q1
  go_wp2_with fail
  have p2 : Kp w1 ((w1.alloc (.cells #[.bool b1, .slice A1 n1 c1] 63)).alloc (.cells #[.bool b'1, .slice A'1 n'1 c'1] 63)) := (((Kp.refl w1).alloc (.cells #[.bool b1, .slice A1 n1 c1] 63)).alloc (.cells #[.bool b'1, .slice A'1 n'1 c'1] 63))
  have bw2 : Below w.heap.size w ((w1.alloc (.cells #[.bool b1, .slice A1 n1 c1] 63)).alloc (.cells #[.bool b'1, .slice A'1 n'1 c'1] 63)) := ((bw1.alloc (by first | omega | (simp <;> omega)) (.cells #[.bool b1, .slice A1 n1 c1] 63)).alloc (by first | omega | (simp <;> omega)) (.cells #[.bool b'1, .slice A'1 n'1 c'1] 63))
  have x2_0 : Blk ((w1.alloc (.cells #[.bool b1, .slice A1 n1 c1] 63)).alloc (.cells #[.bool b'1, .slice A'1 n'1 c'1] 63)) (w1.heap.size) 63 #[.bool b1, .slice A1 n1 c1] := ((blkAt _ _ _ (by simp)).alloc (.cells #[.bool b'1, .slice A'1 n'1 c'1] 63))
  have x2_1 : Blk ((w1.alloc (.cells #[.bool b1, .slice A1 n1 c1] 63)).alloc (.cells #[.bool b'1, .slice A'1 n'1 c'1] 63)) (w1.heap.size + 1) 63 #[.bool b'1, .slice A'1 n'1 c'1] := (blkAt _ _ _ (by simp))
  replace x1_0 : Blk ((w1.alloc (.cells #[.bool b1, .slice A1 n1 c1] 63)).alloc (.cells #[.bool b'1, .slice A'1 n'1 c'1] 63)) (w.heap.size) 24 #[.bool b, .slice A n c, .slice D m e] := ((x1_0.alloc (.cells #[.bool b1, .slice A1 n1 c1] 63)).alloc (.cells #[.bool b'1, .slice A'1 n'1 c'1] 63))
  replace x1_1 : Blk ((w1.alloc (.cells #[.bool b1, .slice A1 n1 c1] 63)).alloc (.cells #[.bool b'1, .slice A'1 n'1 c'1] 63)) (w.heap.size + 1) 24 #[.bool false, .slice none 0 0, .slice none 0 0] := ((x1_1.alloc (.cells #[.bool b1, .slice A1 n1 c1] 63)).alloc (.cells #[.bool b'1, .slice A'1 n'1 c'1] 63))
  have lw2 : w1.heap.size + 2 ≤ ((w1.alloc (.cells #[.bool b1, .slice A1 n1 c1] 63)).alloc (.cells #[.bool b'1, .slice A'1 n'1 c'1] 63)).heap.size := by simp
  generalize hE2 : ((w1.alloc (.cells #[.bool b1, .slice A1 n1 c1] 63)).alloc (.cells #[.bool b'1, .slice A'1 n'1 c'1] 63)) = w2 at p2 bw2 lw2 x2_0 x2_1 x1_0 x1_1 ⊢
  clear hE2
  replace h := h.keep p2
  replace h1 := h1.keep p2
  replace h'1 := h'1.keep p2
  clear bw1
  have lx1_0_0 : w.heap.size < w2.heap.size := by have := x1_0.lt; omega
  have lx1_0_1 : w.heap.size < w2.heap.size + 1 := by have := x1_0.lt; omega
  have lx1_0_2 : w.heap.size < w2.heap.size + 2 := by have := x1_0.lt; omega
  have lx1_0_3 : w.heap.size < w2.heap.size + 3 := by have := x1_0.lt; omega
  have cx1_1_0 : w2.cell? ⟨w.heap.size + 1, 0, none⟩ = some (.bool false) := x1_1.cell 0
  have fx1_1_0 : w2.frozen? ⟨w.heap.size + 1, 0, none⟩ = false := x1_1.frozen 0
  have cx1_1_1 : w2.cell? ⟨w.heap.size + 1, 1, none⟩ = some (.slice none 0 0) := x1_1.cell 1
  have fx1_1_1 : w2.frozen? ⟨w.heap.size + 1, 1, none⟩ = false := x1_1.frozen 1
  have cx1_1_2 : w2.cell? ⟨w.heap.size + 1, 2, none⟩ = some (.slice none 0 0) := x1_1.cell 2
  have fx1_1_2 : w2.frozen? ⟨w.heap.size + 1, 2, none⟩ = false := x1_1.frozen 2
  have lx1_1_0 : w.heap.size + 1 < w2.heap.size := by have := x1_1.lt; omega
  have lx1_1_1 : w.heap.size < w2.heap.size := by have := x1_1.lt; omega
  have lx1_1_2 : w.heap.size < w2.heap.size + 1 := by have := x1_1.lt; omega
  have lx1_1_3 : w.heap.size < w2.heap.size + 2 := by have := x1_1.lt; omega
  have cx2_0_0 : w2.cell? ⟨w1.heap.size, 0, none⟩ = some (.bool b1) := x2_0.cell 0
  have cx2_0_1 : w2.cell? ⟨w1.heap.size, 1, none⟩ = some (.slice A1 n1 c1) := x2_0.cell 1
  have lx2_0_0 : w1.heap.size < w2.heap.size := by have := x2_0.lt; omega
  have lx2_0_1 : w1.heap.size < w2.heap.size + 1 := by have := x2_0.lt; omega
  have lx2_0_2 : w1.heap.size < w2.heap.size + 2 := by have := x2_0.lt; omega
  have lx2_0_3 : w1.heap.size < w2.heap.size + 3 := by have := x2_0.lt; omega
  have cx2_1_0 : w2.cell? ⟨w1.heap.size + 1, 0, none⟩ = some (.bool b'1) := x2_1.cell 0
  have cx2_1_1 : w2.cell? ⟨w1.heap.size + 1, 1, none⟩ = some (.slice A'1 n'1 c'1) := x2_1.cell 1
  have lx2_1_0 : w1.heap.size + 1 < w2.heap.size := by have := x2_1.lt; omega
  have lx2_1_1 : w1.heap.size < w2.heap.size := by have := x2_1.lt; omega
  have lx2_1_2 : w1.heap.size < w2.heap.size + 1 := by have := x2_1.lt; omega
  have lx2_1_3 : w1.heap.size < w2.heap.size + 2 := by have := x2_1.lt; omega
  have nfx1_0_0 : ¬ w.heap.size = w.heap.size + 1 := by omega
  have nex1_0_0 : ¬ w.heap.size = w.heap.size + 1 := by omega
  have nfx2_0_0 : ¬ w1.heap.size = w.heap.size + 1 := by omega
  have nex2_0_0 : ¬ w1.heap.size = w.heap.size + 1 := by omega
  have nfx2_1_0 : ¬ w1.heap.size + 1 = w.heap.size + 1 := by omega
  have nex2_1_0 : ¬ w1.heap.size = w.heap.size := by omega
  go_region_held3 (fun w' => SeesX w2.heap.size (w.heap.size + 1) w2 w') (first | with_reducible exact SeesX.of (Nat.le_refl _) (by assumption) | with_reducible exact SeesX.of (Nat.le_refl _) (brefl _).drew | with_reducible exact (SeesX.set (SeesX.set (SeesX.set (SeesX.of (Nat.le_refl _) (by assumption))))) | with_reducible exact (SeesX.set (SeesX.set (SeesX.of (Nat.le_refl _) (by assumption)))) | with_reducible exact (SeesX.set (SeesX.of (Nat.le_refl _) (by assumption))) | exact SeesX.of (Nat.le_refl _) (below_drewN (brefl _) 1) | exact SeesX.of (Nat.le_refl _) (below_drewN (by assumption) _))
    (first
      | (go_at_call 94; (with_reducible refine (r01_neg _ b1 A1 n1 c1 ((q).num) ((k)) ?_ ?_).mono ?_); (exact h1.iz); (first | omega | decide | assumption); rintro e w3 ⟨b3, A3, n3, c3, rfl, h3, hb3⟩; replace hb3 := bnext (below_drewN (brefl _) 1) hb3; have q3 : Below w2.heap.size w2 w3 := bnext (brefl w2) hb3; replace h := h.belw hb3; replace h1 := h1.belw hb3; replace h'1 := h'1.belw hb3)
      | (go_at_call 80; (with_reducible refine (g_form _ b3 A3 n3 c3 (-((q).num)) (((k))) ?_ b'1 A'1 n'1 c'1 (((q).den : Int)) ((k)) ?_ (-q) (k) ?_ ?_ ?_ ?_).mono ?_); (exact h3.iz); (exact h'1.iz); (exact den_ne _); (exact (neg_q q).symm); (exact Sz_neg HS.out); (omega); rintro e w4 ⟨b4, A4, n4, c4, A'4, n'4, c'4, rfl, h4, hb4⟩; have q4 : Below w2.heap.size w2 w4 := bnext q3 hb4; replace h := h.belw hb4; replace h1 := h1.belw hb4; replace h'1 := h'1.belw hb4; replace h3 := h3.belw hb4; have x1_1 : Blk w4 (w.heap.size + 1) 24 #[.bool false, .slice none 0 0, .slice none 0 0] := x1_1.below q4 x1_1.lt; have cx1_1_0 : w4.cell? ⟨w.heap.size + 1, 0, none⟩ = some (.bool false) := x1_1.cell 0; have cx1_1_1 : w4.cell? ⟨w.heap.size + 1, 1, none⟩ = some (.slice none 0 0) := x1_1.cell 1; have cx1_1_2 : w4.cell? ⟨w.heap.size + 1, 2, none⟩ = some (.slice none 0 0) := x1_1.cell 2; have fx1_1_0 : w4.frozen? ⟨w.heap.size + 1, 0, none⟩ = false := x1_1.frozen 0; have fx1_1_1 : w4.frozen? ⟨w.heap.size + 1, 1, none⟩ = false := x1_1.frozen 1; have fx1_1_2 : w4.frozen? ⟨w.heap.size + 1, 2, none⟩ = false := x1_1.frozen 2))
  have bw4 : Below w.heap.size w w4 := bw2.trans (q4.mono bw2.size)
  clear lx1_0_0 lx1_0_1 lx1_0_2 lx1_0_3 cx1_1_0 fx1_1_0 cx1_1_1 fx1_1_1 cx1_1_2 fx1_1_2 lx1_1_0 lx1_1_1 lx1_1_2 lx1_1_3 cx2_0_0 cx2_0_1 lx2_0_0 lx2_0_1 lx2_0_2 lx2_0_3 cx2_1_0 cx2_1_1 lx2_1_0 lx2_1_1 lx2_1_2 lx2_1_3
  replace x1_0 : Blk w4 (w.heap.size) 24 #[.bool b, .slice A n c, .slice D m e] := x1_0.below q4 x1_0.lt
  replace x2_0 : Blk w4 (w1.heap.size) 63 #[.bool b1, .slice A1 n1 c1] := x2_0.below q4 x2_0.lt
  replace x2_1 : Blk w4 (w1.heap.size + 1) 63 #[.bool b'1, .slice A'1 n'1 c'1] := x2_1.below q4 x2_1.lt
  have lw4 : w2.heap.size ≤ w4.heap.size := q4.size
  have cx1_1_0 : w4.cell? ⟨w.heap.size + 1, 0, none⟩ = some (.bool false) := x1_1.cell 0
  have fx1_1_0 : w4.frozen? ⟨w.heap.size + 1, 0, none⟩ = false := x1_1.frozen 0
  have cx1_1_1 : w4.cell? ⟨w.heap.size + 1, 1, none⟩ = some (.slice none 0 0) := x1_1.cell 1
  have fx1_1_1 : w4.frozen? ⟨w.heap.size + 1, 1, none⟩ = false := x1_1.frozen 1
  have cx1_1_2 : w4.cell? ⟨w.heap.size + 1, 2, none⟩ = some (.slice none 0 0) := x1_1.cell 2
  have fx1_1_2 : w4.frozen? ⟨w.heap.size + 1, 2, none⟩ = false := x1_1.frozen 2
  go_wp2_with fail
  refine bodyPost_ret (v := .agg #[.bool b4, .slice A4 n4 c4, .slice A'4 n'4 c'4]) (by simp [results, Try.results78, go_sem, *] <;> first | rfl | exact ⟨rfl, rfl⟩) rfl ?_
  exact ⟨b4, A4, n4, c4, A'4, n'4, c'4, rfl, h4.keep ((((Kp.refl w4).setB (p := ⟨w.heap.size + 1, 0, none⟩) x1_1.box (by decide) (.bool b4)).setB (p := ⟨w.heap.size + 1, 1, none⟩) (x1_1.box.set ⟨w.heap.size + 1, 0, none⟩ (.bool b4)) (by decide) (.slice A4 n4 c4)).setB (p := ⟨w.heap.size + 1, 2, none⟩) ((x1_1.box.set ⟨w.heap.size + 1, 0, none⟩ (.bool b4)).set ⟨w.heap.size + 1, 1, none⟩ (.slice A4 n4 c4)) (by decide) (.slice A'4 n'4 c'4)), (((bw4.setCell (p := ⟨w.heap.size + 1, 0, none⟩) (by dsimp only; omega) (.bool b4)).setCell (p := ⟨w.heap.size + 1, 1, none⟩) (by dsimp only; omega) (.slice A4 n4 c4)).setCell (p := ⟨w.heap.size + 1, 2, none⟩) (by dsimp only; omega) (.slice A'4 n'4 c'4))⟩
set_option maxRecDepth 100000 in
set_option maxHeartbeats 2000000 in
/-- linkworkref02.Add -/
theorem g_add (w : World) (b : Bool) (A : Option Addr) (n c : Nat) (D : Option Addr) (m e : Nat) (q : Rat) (k : Nat) (h : QZ w b A n c D m e q k) (b' : Bool) (A' : Option Addr) (n' c' : Nat) (D' : Option Addr) (m' e' : Nat) (q' : Rat) (k' : Nat) (h' : QZ w b' A' n' c' D' m' e' q' k') (h0 : 0 < k) (hk : k ≤ 40000000) (h0' : 0 < k') (hk' : k' ≤ 40000000) :
    Calls Try.prog 77 #[.agg #[.bool b, .slice A n c, .slice D m e], .agg #[.bool b', .slice A' n' c', .slice D' m' e']] w (RetF w (q + q') (k + k' + 1)) := by
  have HS := Lib.hid (h.sz h0)
  have HS' := Lib.hid (h'.sz h0')
  go_enter Try.func77, Try.ntmps77
  go_wp2_with fail
  (with_reducible refine (g_parts _ b A n c D m e (q) (k) ?_ ?_ ?_).mono ?_); (exact (h.belw ((((Below.refl _ _).alloc (Nat.le_refl _) _).alloc (by simp) _).alloc (by simp <;> omega) _))); (first | omega | decide | assumption); (first | omega | decide | assumption); rintro e w1 ⟨b1, A1, n1, c1, b'1, A'1, n'1, c'1, rfl, h1, h'1, hb1⟩
  have q1 : Below w.heap.size w w1 := ((((Below.refl _ _).alloc (Nat.le_refl _) _).alloc (by simp) _).alloc (by simp <;> omega) _).trans (hb1.mono (by simp <;> omega))
  replace h := h.belw q1
  replace h' := h'.belw q1
  have x1_0 : Blk w1 (w.heap.size) 24 #[.bool b, .slice A n c, .slice D m e] := (((blkAt _ _ _ (by simp)).alloc _).alloc _).below hb1 (by simp <;> omega)
  have x1_1 : Blk w1 (w.heap.size + 1) 24 #[.bool b', .slice A' n' c', .slice D' m' e'] := ((blkAt _ _ _ (by simp)).alloc _).below hb1 (by simp <;> omega)
  have x1_2 : Blk w1 (w.heap.size + 1 + 1) 24 #[.bool false, .slice none 0 0, .slice none 0 0] := (blkAt _ _ _ (by simp)).below hb1 (by simp)
  have bw1 : Below w.heap.size w w1 := (brefl w).trans (q1.mono (brefl w).size)
  have lw1 : w.heap.size + 3 ≤ w1.heap.size := by have := hb1.size; simp at this; omega
  clear hb1 q1
  have cx1_1_0 : w1.cell? ⟨w.heap.size + 1, 0, none⟩ = some (.bool b') := x1_1.cell 0
  have cx1_1_1 : w1.cell? ⟨w.heap.size + 1, 1, none⟩ = some (.slice A' n' c') := x1_1.cell 1
  have cx1_1_2 : w1.cell? ⟨w.heap.size + 1, 2, none⟩ = some (.slice D' m' e') := x1_1.cell 2
  have lx1_1_0 : w.heap.size + 1 < w1.heap.size := by have := x1_1.lt; omega
  have lx1_1_1 : w.heap.size < w1.heap.size := by have := x1_1.lt; omega
  have lx1_1_2 : w.heap.size < w1.heap.size + 1 := by have := x1_1.lt; omega
  have lx1_1_3 : w.heap.size < w1.heap.size + 2 := by have := x1_1.lt; omega
  go_wp2_with fail
  (with_reducible refine (g_parts _ b' A' n' c' D' m' e' (q') (k') ?_ ?_ ?_).mono ?_); (exact (h'.belw (((Below.refl _ _).alloc (Nat.le_refl _) _).alloc (by simp) _))); (first | omega | decide | assumption); (first | omega | decide | assumption); rintro e w2 ⟨b2, A2, n2, c2, b'2, A'2, n'2, c'2, rfl, h2, h'2, hb2⟩
  clear cx1_1_0 cx1_1_1 cx1_1_2 lx1_1_0 lx1_1_1 lx1_1_2 lx1_1_3
  have q2 : Below w1.heap.size w1 w2 := (((Below.refl _ _).alloc (Nat.le_refl _) _).alloc (by simp) _).trans (hb2.mono (by simp <;> omega))
  replace h := h.belw q2
  replace h' := h'.belw q2
  replace h1 := h1.belw q2
  replace h'1 := h'1.belw q2
  replace x1_0 : Blk w2 (w.heap.size) 24 #[.bool b, .slice A n c, .slice D m e] := x1_0.below q2 x1_0.lt
  replace x1_1 : Blk w2 (w.heap.size + 1) 24 #[.bool b', .slice A' n' c', .slice D' m' e'] := x1_1.below q2 x1_1.lt
  replace x1_2 : Blk w2 (w.heap.size + 1 + 1) 24 #[.bool false, .slice none 0 0, .slice none 0 0] := x1_2.below q2 x1_2.lt
  have x2_0 : Blk w2 (w1.heap.size) 63 #[.bool b1, .slice A1 n1 c1] := ((blkAt _ _ _ (by simp)).alloc _).below hb2 (by simp <;> omega)
  have x2_1 : Blk w2 (w1.heap.size + 1) 63 #[.bool b'1, .slice A'1 n'1 c'1] := (blkAt _ _ _ (by simp)).below hb2 (by simp)
  have bw2 : Below w.heap.size w w2 := bw1.trans (q2.mono bw1.size)
  have lw2 : w1.heap.size + 2 ≤ w2.heap.size := by have := hb2.size; simp at this; omega
  clear hb2 q2 bw1
  go_wp2_with fail
  have p3 : Kp w2 ((w2.alloc (.cells #[.bool b2, .slice A2 n2 c2] 63)).alloc (.cells #[.bool b'2, .slice A'2 n'2 c'2] 63)) := (((Kp.refl w2).alloc (.cells #[.bool b2, .slice A2 n2 c2] 63)).alloc (.cells #[.bool b'2, .slice A'2 n'2 c'2] 63))
  have bw3 : Below w.heap.size w ((w2.alloc (.cells #[.bool b2, .slice A2 n2 c2] 63)).alloc (.cells #[.bool b'2, .slice A'2 n'2 c'2] 63)) := ((bw2.alloc (by first | omega | (simp <;> omega)) (.cells #[.bool b2, .slice A2 n2 c2] 63)).alloc (by first | omega | (simp <;> omega)) (.cells #[.bool b'2, .slice A'2 n'2 c'2] 63))
  have x3_0 : Blk ((w2.alloc (.cells #[.bool b2, .slice A2 n2 c2] 63)).alloc (.cells #[.bool b'2, .slice A'2 n'2 c'2] 63)) (w2.heap.size) 63 #[.bool b2, .slice A2 n2 c2] := ((blkAt _ _ _ (by simp)).alloc (.cells #[.bool b'2, .slice A'2 n'2 c'2] 63))
  have x3_1 : Blk ((w2.alloc (.cells #[.bool b2, .slice A2 n2 c2] 63)).alloc (.cells #[.bool b'2, .slice A'2 n'2 c'2] 63)) (w2.heap.size + 1) 63 #[.bool b'2, .slice A'2 n'2 c'2] := (blkAt _ _ _ (by simp))
  replace x1_0 : Blk ((w2.alloc (.cells #[.bool b2, .slice A2 n2 c2] 63)).alloc (.cells #[.bool b'2, .slice A'2 n'2 c'2] 63)) (w.heap.size) 24 #[.bool b, .slice A n c, .slice D m e] := ((x1_0.alloc (.cells #[.bool b2, .slice A2 n2 c2] 63)).alloc (.cells #[.bool b'2, .slice A'2 n'2 c'2] 63))
  replace x1_1 : Blk ((w2.alloc (.cells #[.bool b2, .slice A2 n2 c2] 63)).alloc (.cells #[.bool b'2, .slice A'2 n'2 c'2] 63)) (w.heap.size + 1) 24 #[.bool b', .slice A' n' c', .slice D' m' e'] := ((x1_1.alloc (.cells #[.bool b2, .slice A2 n2 c2] 63)).alloc (.cells #[.bool b'2, .slice A'2 n'2 c'2] 63))
  replace x1_2 : Blk ((w2.alloc (.cells #[.bool b2, .slice A2 n2 c2] 63)).alloc (.cells #[.bool b'2, .slice A'2 n'2 c'2] 63)) (w.heap.size + 1 + 1) 24 #[.bool false, .slice none 0 0, .slice none 0 0] := ((x1_2.alloc (.cells #[.bool b2, .slice A2 n2 c2] 63)).alloc (.cells #[.bool b'2, .slice A'2 n'2 c'2] 63))
  replace x2_0 : Blk ((w2.alloc (.cells #[.bool b2, .slice A2 n2 c2] 63)).alloc (.cells #[.bool b'2, .slice A'2 n'2 c'2] 63)) (w1.heap.size) 63 #[.bool b1, .slice A1 n1 c1] := ((x2_0.alloc (.cells #[.bool b2, .slice A2 n2 c2] 63)).alloc (.cells #[.bool b'2, .slice A'2 n'2 c'2] 63))
  replace x2_1 : Blk ((w2.alloc (.cells #[.bool b2, .slice A2 n2 c2] 63)).alloc (.cells #[.bool b'2, .slice A'2 n'2 c'2] 63)) (w1.heap.size + 1) 63 #[.bool b'1, .slice A'1 n'1 c'1] := ((x2_1.alloc (.cells #[.bool b2, .slice A2 n2 c2] 63)).alloc (.cells #[.bool b'2, .slice A'2 n'2 c'2] 63))
  have lw3 : w2.heap.size + 2 ≤ ((w2.alloc (.cells #[.bool b2, .slice A2 n2 c2] 63)).alloc (.cells #[.bool b'2, .slice A'2 n'2 c'2] 63)).heap.size := by simp
  generalize hE3 : ((w2.alloc (.cells #[.bool b2, .slice A2 n2 c2] 63)).alloc (.cells #[.bool b'2, .slice A'2 n'2 c'2] 63)) = w3 at p3 bw3 lw3 x3_0 x3_1 x1_0 x1_1 x1_2 x2_0 x2_1 ⊢
  clear hE3
  replace h := h.keep p3
  replace h' := h'.keep p3
  replace h1 := h1.keep p3
  replace h'1 := h'1.keep p3
  replace h2 := h2.keep p3
  replace h'2 := h'2.keep p3
  clear bw2
  have cx2_0_0 : w3.cell? ⟨w1.heap.size, 0, none⟩ = some (.bool b1) := x2_0.cell 0
  have cx2_0_1 : w3.cell? ⟨w1.heap.size, 1, none⟩ = some (.slice A1 n1 c1) := x2_0.cell 1
  have lx2_0_0 : w1.heap.size < w3.heap.size := by have := x2_0.lt; omega
  have lx2_0_1 : w1.heap.size < w3.heap.size + 1 := by have := x2_0.lt; omega
  have lx2_0_2 : w1.heap.size < w3.heap.size + 2 := by have := x2_0.lt; omega
  have lx2_0_3 : w1.heap.size < w3.heap.size + 3 := by have := x2_0.lt; omega
  have cx2_1_0 : w3.cell? ⟨w1.heap.size + 1, 0, none⟩ = some (.bool b'1) := x2_1.cell 0
  have cx2_1_1 : w3.cell? ⟨w1.heap.size + 1, 1, none⟩ = some (.slice A'1 n'1 c'1) := x2_1.cell 1
  have lx2_1_0 : w1.heap.size + 1 < w3.heap.size := by have := x2_1.lt; omega
  have lx2_1_1 : w1.heap.size < w3.heap.size := by have := x2_1.lt; omega
  have lx2_1_2 : w1.heap.size < w3.heap.size + 1 := by have := x2_1.lt; omega
  have lx2_1_3 : w1.heap.size < w3.heap.size + 2 := by have := x2_1.lt; omega
  have cx3_0_0 : w3.cell? ⟨w2.heap.size, 0, none⟩ = some (.bool b2) := x3_0.cell 0
  have cx3_0_1 : w3.cell? ⟨w2.heap.size, 1, none⟩ = some (.slice A2 n2 c2) := x3_0.cell 1
  have lx3_0_0 : w2.heap.size < w3.heap.size := by have := x3_0.lt; omega
  have lx3_0_1 : w2.heap.size < w3.heap.size + 1 := by have := x3_0.lt; omega
  have lx3_0_2 : w2.heap.size < w3.heap.size + 2 := by have := x3_0.lt; omega
  have lx3_0_3 : w2.heap.size < w3.heap.size + 3 := by have := x3_0.lt; omega
  have cx3_1_0 : w3.cell? ⟨w2.heap.size + 1, 0, none⟩ = some (.bool b'2) := x3_1.cell 0
  have cx3_1_1 : w3.cell? ⟨w2.heap.size + 1, 1, none⟩ = some (.slice A'2 n'2 c'2) := x3_1.cell 1
  have lx3_1_0 : w2.heap.size + 1 < w3.heap.size := by have := x3_1.lt; omega
  have lx3_1_1 : w2.heap.size < w3.heap.size := by have := x3_1.lt; omega
  have lx3_1_2 : w2.heap.size < w3.heap.size + 1 := by have := x3_1.lt; omega
  have lx3_1_3 : w2.heap.size < w3.heap.size + 2 := by have := x3_1.lt; omega
  refine wp_region_lin (B := w.heap.size) (fr := fun xf => ⟨List.toArray (.agg #[.bool b, .slice A n c, .slice D m e] :: .agg #[.bool b', .slice A' n' c', .slice D' m' e'] :: .pointer (some ⟨w.heap.size, 0, none⟩) :: .pointer (some ⟨w.heap.size + 1, 0, none⟩) :: .pointer (some ⟨w.heap.size + 1 + 1, 0, none⟩) :: .pointer (some ⟨w1.heap.size, 0, none⟩) :: .pointer (some ⟨w1.heap.size + 1, 0, none⟩) :: .pointer (some ⟨w2.heap.size, 0, none⟩) :: .pointer (some ⟨w2.heap.size + 1, 0, none⟩) :: .tuple #[.agg #[.bool b1, .slice A1 n1 c1], .agg #[.bool b'1, .slice A'1 n'1 c'1]] :: .agg #[.bool b, .slice A n c, .slice D m e] :: .tuple #[.agg #[.bool b1, .slice A1 n1 c1], .agg #[.bool b'1, .slice A'1 n'1 c'1]] :: .agg #[.bool b1, .slice A1 n1 c1] :: .agg #[.bool b'1, .slice A'1 n'1 c'1] :: .tuple #[.agg #[.bool b2, .slice A2 n2 c2], .agg #[.bool b'2, .slice A'2 n'2 c'2]] :: .agg #[.bool b', .slice A' n' c', .slice D' m' e'] :: .tuple #[.agg #[.bool b2, .slice A2 n2 c2], .agg #[.bool b'2, .slice A'2 n'2 c'2]] :: .agg #[.bool b2, .slice A2 n2 c2] :: .agg #[.bool b'2, .slice A'2 n'2 c'2] :: xf 0 :: xf 1 :: xf 2 :: xf 3 :: xf 4 :: xf 5 :: xf 6 :: xf 7 :: xf 8 :: xf 9 :: xf 10 :: []), []⟩) (R := fun i => List.getD ((PEq (.agg #[.bool b1, .slice A1 n1 c1])) :: (PEq (.agg #[.bool b'2, .slice A'2 n'2 c'2])) :: (VI (((q).num) * (((q').den : Int))) (((k)) + ((k')))) :: (PEq (.agg #[.bool b2, .slice A2 n2 c2])) :: (PEq (.agg #[.bool b'1, .slice A'1 n'1 c'1])) :: (VI (((q').num) * (((q).den : Int))) (((k')) + ((k)))) :: (VI ((((q).num) * (((q').den : Int))) + (((q').num) * (((q).den : Int)))) ((((k)) + ((k'))) + (((k')) + ((k))) + 1)) :: (PEq (.agg #[.bool b'1, .slice A'1 n'1 c'1])) :: (PEq (.agg #[.bool b'2, .slice A'2 n'2 c'2])) :: (VI ((((q).den : Int)) * (((q').den : Int))) (((k)) + ((k')))) :: (VQ (q + q') (k + k' + 1)) :: PAny :: []) i (fun _ _ => True)) (es := []) (ow := [⟨w.heap.size, 12, 0, 24, #[.bool b, .slice A n c, .slice D m e], CAny⟩, ⟨w.heap.size + 1, 12, 0, 24, #[.bool b', .slice A' n' c', .slice D' m' e'], CAny⟩, ⟨w.heap.size + 1 + 1, 11, 0, 24, #[.bool false, .slice none 0 0, .slice none 0 0], CQ (q + q') (k + k' + 1)⟩, ⟨w1.heap.size, 12, 0, 63, #[.bool b1, .slice A1 n1 c1], CAny⟩, ⟨w1.heap.size + 1, 12, 0, 63, #[.bool b'1, .slice A'1 n'1 c'1], CAny⟩, ⟨w2.heap.size, 12, 0, 63, #[.bool b2, .slice A2 n2 c2], CAny⟩, ⟨w2.heap.size + 1, 12, 0, 63, #[.bool b'2, .slice A'2 n'2 c'2], CAny⟩]) (x0 := (fun _ => undef)) (by kernel_rfl)
    (each_of ⟨fun _ _ => rfl, fun _ _ => rfl, fun _ _ => rfl, fun _ _ => rfl, fun _ _ => rfl, fun _ _ => rfl, fun _ _ => rfl, fun _ _ => rfl, fun _ _ => rfl, fun _ _ => rfl, fun _ _ => rfl, fun _ _ => rfl, trivial⟩) (each_of (acyc_from _ 0 (by kernel_rfl))) (AllStab.get _ ⟨stEq _, stEq _, stI _ _, stEq _, stEq _, stI _ _, stI _ _, stEq _, stEq _, stI _ _, stQ _ _, stAny, trivial⟩)
    (fun _ h => nomatch h) (List.forall_mem_cons.2 ⟨scAny, List.forall_mem_cons.2 ⟨scAny, List.forall_mem_cons.2 ⟨scQ _ _, List.forall_mem_cons.2 ⟨scAny, List.forall_mem_cons.2 ⟨scAny, List.forall_mem_cons.2 ⟨scAny, List.forall_mem_cons.2 ⟨scAny, fun _ h => nomatch h⟩⟩⟩⟩⟩⟩⟩) (fun _ h => nomatch h) bw3.size
    (List.forall_mem_cons.2 ⟨⟨x1_0, by show w.heap.size ≤ w.heap.size; omega⟩, List.forall_mem_cons.2 ⟨⟨x1_1, by show w.heap.size ≤ w.heap.size + 1; omega⟩, List.forall_mem_cons.2 ⟨⟨x1_2, by show w.heap.size ≤ w.heap.size + 1 + 1; omega⟩, List.forall_mem_cons.2 ⟨⟨x2_0, by show w.heap.size ≤ w1.heap.size; omega⟩, List.forall_mem_cons.2 ⟨⟨x2_1, by show w.heap.size ≤ w1.heap.size + 1; omega⟩, List.forall_mem_cons.2 ⟨⟨x3_0, by show w.heap.size ≤ w2.heap.size; omega⟩, List.forall_mem_cons.2 ⟨⟨x3_1, by show w.heap.size ≤ w2.heap.size + 1; omega⟩, fun _ h => nomatch h⟩⟩⟩⟩⟩⟩⟩) (ownDist (by simp <;> omega))
    (each_of ⟨?_, ?_, ?_, ?_, ?_, ?_, ?_, ?_, ?_, ?_, ?_, ?_, trivial⟩) ?_
  · exact .inl ⟨by simp, by simp, fun xf wq hk hbl hd K hK => by
      have y : Blk wq (w1.heap.size) 63 #[.bool b1, .slice A1 n1 c1] := hbl _ (List.Mem.tail _ (List.Mem.tail _ (List.Mem.tail _ (List.Mem.head _)))) (by simp [Region.binds])
      have hcl0 : wq.cell? ⟨w1.heap.size, 0, none⟩ = some (.bool b1) := y.cell 0
      have hcl1 : wq.cell? ⟨w1.heap.size, 1, none⟩ = some (.slice A1 n1 c1) := y.cell 1
      (try dsimp only)
      go_simp
      exact hK.out (.agg #[.bool b1, .slice A1 n1 c1]) _ rfl (brefl _)⟩
  · exact .inl ⟨by simp, by simp, fun xf wq hk hbl hd K hK => by
      have y : Blk wq (w2.heap.size + 1) 63 #[.bool b'2, .slice A'2 n'2 c'2] := hbl _ (List.Mem.tail _ (List.Mem.tail _ (List.Mem.tail _ (List.Mem.tail _ (List.Mem.tail _ (List.Mem.tail _ (List.Mem.head _))))))) (by simp [Region.binds])
      have hcl0 : wq.cell? ⟨w2.heap.size + 1, 0, none⟩ = some (.bool b'2) := y.cell 0
      have hcl1 : wq.cell? ⟨w2.heap.size + 1, 1, none⟩ = some (.slice A'2 n'2 c'2) := y.cell 1
      (try dsimp only)
      go_simp
      exact hK.out (.agg #[.bool b'2, .slice A'2 n'2 c'2]) _ rfl (brefl _)⟩
  · exact .inl ⟨by simp, by simp, fun xf wq hk hbl hd K hK => by
      have d0 : xf 0 = .agg #[.bool b1, .slice A1 n1 c1] := hd ⟨0, .data⟩ (by simp) rfl
      have d1 : xf 1 = .agg #[.bool b'2, .slice A'2 n'2 c'2] := hd ⟨1, .data⟩ (by simp) rfl
      (try dsimp only); (try simp only [d0, d1])
      go_simp
      go_at_call 93
      (with_reducible refine (r01_mul _ b1 A1 n1 c1 ((q).num) ((k)) ?_ b'2 A'2 n'2 c'2 (((q').den : Int)) ((k')) ?_ ?_).mono ?_); (exact (h1.keep hk).iz); (exact (h'2.keep hk).iz); (first | omega | decide | assumption); rintro e wr ⟨b5, A5, n5, c5, rfl, h5, hbr⟩
      have hz := hK.out _ _ ⟨b5, A5, n5, c5, rfl, h5⟩ hbr
      simp only [d0, d1] at hz
      exact hz⟩
  · exact .inl ⟨by simp, by simp, fun xf wq hk hbl hd K hK => by
      have y : Blk wq (w2.heap.size) 63 #[.bool b2, .slice A2 n2 c2] := hbl _ (List.Mem.tail _ (List.Mem.tail _ (List.Mem.tail _ (List.Mem.tail _ (List.Mem.tail _ (List.Mem.head _)))))) (by simp [Region.binds])
      have hcl0 : wq.cell? ⟨w2.heap.size, 0, none⟩ = some (.bool b2) := y.cell 0
      have hcl1 : wq.cell? ⟨w2.heap.size, 1, none⟩ = some (.slice A2 n2 c2) := y.cell 1
      (try dsimp only)
      go_simp
      exact hK.out (.agg #[.bool b2, .slice A2 n2 c2]) _ rfl (brefl _)⟩
  · exact .inl ⟨by simp, by simp, fun xf wq hk hbl hd K hK => by
      have y : Blk wq (w1.heap.size + 1) 63 #[.bool b'1, .slice A'1 n'1 c'1] := hbl _ (List.Mem.tail _ (List.Mem.tail _ (List.Mem.tail _ (List.Mem.tail _ (List.Mem.head _))))) (by simp [Region.binds])
      have hcl0 : wq.cell? ⟨w1.heap.size + 1, 0, none⟩ = some (.bool b'1) := y.cell 0
      have hcl1 : wq.cell? ⟨w1.heap.size + 1, 1, none⟩ = some (.slice A'1 n'1 c'1) := y.cell 1
      (try dsimp only)
      go_simp
      exact hK.out (.agg #[.bool b'1, .slice A'1 n'1 c'1]) _ rfl (brefl _)⟩
  · exact .inl ⟨by simp, by simp, fun xf wq hk hbl hd K hK => by
      have d3 : xf 3 = .agg #[.bool b2, .slice A2 n2 c2] := hd ⟨3, .data⟩ (by simp) rfl
      have d4 : xf 4 = .agg #[.bool b'1, .slice A'1 n'1 c'1] := hd ⟨4, .data⟩ (by simp) rfl
      (try dsimp only); (try simp only [d3, d4])
      go_simp
      go_at_call 93
      (with_reducible refine (r01_mul _ b2 A2 n2 c2 ((q').num) ((k')) ?_ b'1 A'1 n'1 c'1 (((q).den : Int)) ((k)) ?_ ?_).mono ?_); (exact (h2.keep hk).iz); (exact (h'1.keep hk).iz); (first | omega | decide | assumption); rintro e wr ⟨b6, A6, n6, c6, rfl, h6, hbr⟩
      have hz := hK.out _ _ ⟨b6, A6, n6, c6, rfl, h6⟩ hbr
      simp only [d3, d4] at hz
      exact hz⟩
  · exact .inl ⟨by simp, by simp, fun xf wq hk hbl hd K hK => by
      obtain ⟨b5, A5, n5, c5, d2, h5⟩ : VI (((q).num) * (((q').den : Int))) (((k)) + ((k'))) (xf 2) wq := hd ⟨2, .data⟩ (by simp) rfl
      obtain ⟨b6, A6, n6, c6, d5, h6⟩ : VI (((q').num) * (((q).den : Int))) (((k')) + ((k))) (xf 5) wq := hd ⟨5, .data⟩ (by simp) rfl
      (try dsimp only); (try simp only [d2, d5])
      go_simp
      go_at_call 92
      (with_reducible refine (r01_add _ b5 A5 n5 c5 (((q).num) * (((q').den : Int))) (((k)) + ((k'))) ?_ b6 A6 n6 c6 (((q').num) * (((q).den : Int))) (((k')) + ((k))) ?_ ?_).mono ?_); (exact h5.iz); (exact h6.iz); (first | omega | decide | assumption); rintro e wr ⟨b7, A7, n7, c7, rfl, h7, hbr⟩
      have hz := hK.out _ _ ⟨b7, A7, n7, c7, rfl, h7⟩ hbr
      simp only [d2, d5] at hz
      exact hz⟩
  · exact .inl ⟨by simp, by simp, fun xf wq hk hbl hd K hK => by
      have y : Blk wq (w1.heap.size + 1) 63 #[.bool b'1, .slice A'1 n'1 c'1] := hbl _ (List.Mem.tail _ (List.Mem.tail _ (List.Mem.tail _ (List.Mem.tail _ (List.Mem.head _))))) (by simp [Region.binds])
      have hcl0 : wq.cell? ⟨w1.heap.size + 1, 0, none⟩ = some (.bool b'1) := y.cell 0
      have hcl1 : wq.cell? ⟨w1.heap.size + 1, 1, none⟩ = some (.slice A'1 n'1 c'1) := y.cell 1
      (try dsimp only)
      go_simp
      exact hK.out (.agg #[.bool b'1, .slice A'1 n'1 c'1]) _ rfl (brefl _)⟩
  · exact .inl ⟨by simp, by simp, fun xf wq hk hbl hd K hK => by
      have y : Blk wq (w2.heap.size + 1) 63 #[.bool b'2, .slice A'2 n'2 c'2] := hbl _ (List.Mem.tail _ (List.Mem.tail _ (List.Mem.tail _ (List.Mem.tail _ (List.Mem.tail _ (List.Mem.tail _ (List.Mem.head _))))))) (by simp [Region.binds])
      have hcl0 : wq.cell? ⟨w2.heap.size + 1, 0, none⟩ = some (.bool b'2) := y.cell 0
      have hcl1 : wq.cell? ⟨w2.heap.size + 1, 1, none⟩ = some (.slice A'2 n'2 c'2) := y.cell 1
      (try dsimp only)
      go_simp
      exact hK.out (.agg #[.bool b'2, .slice A'2 n'2 c'2]) _ rfl (brefl _)⟩
  · exact .inl ⟨by simp, by simp, fun xf wq hk hbl hd K hK => by
      have d7 : xf 7 = .agg #[.bool b'1, .slice A'1 n'1 c'1] := hd ⟨7, .data⟩ (by simp) rfl
      have d8 : xf 8 = .agg #[.bool b'2, .slice A'2 n'2 c'2] := hd ⟨8, .data⟩ (by simp) rfl
      (try dsimp only); (try simp only [d7, d8])
      go_simp
      go_at_call 93
      (with_reducible refine (r01_mul _ b'1 A'1 n'1 c'1 (((q).den : Int)) ((k)) ?_ b'2 A'2 n'2 c'2 (((q').den : Int)) ((k')) ?_ ?_).mono ?_); (exact (h'1.keep hk).iz); (exact (h'2.keep hk).iz); (first | omega | decide | assumption); rintro e wr ⟨b8, A8, n8, c8, rfl, h8, hbr⟩
      have hz := hK.out _ _ ⟨b8, A8, n8, c8, rfl, h8⟩ hbr
      simp only [d7, d8] at hz
      exact hz⟩
  · exact .inl ⟨by simp, by simp, fun xf wq hk hbl hd K hK => by
      obtain ⟨b7, A7, n7, c7, d6, h7⟩ : VI ((((q).num) * (((q').den : Int))) + (((q').num) * (((q).den : Int)))) ((((k)) + ((k'))) + (((k')) + ((k))) + 1) (xf 6) wq := hd ⟨6, .data⟩ (by simp) rfl
      obtain ⟨b8, A8, n8, c8, d9, h8⟩ : VI ((((q).den : Int)) * (((q').den : Int))) (((k)) + ((k'))) (xf 9) wq := hd ⟨9, .data⟩ (by simp) rfl
      (try dsimp only); (try simp only [d6, d9])
      go_simp
      go_at_call 80
      (with_reducible refine (g_form _ b7 A7 n7 c7 ((((q).num) * (((q').den : Int))) + (((q').num) * (((q).den : Int)))) ((((k)) + ((k'))) + (((k')) + ((k))) + 1) ?_ b8 A8 n8 c8 ((((q).den : Int)) * (((q').den : Int))) (((k)) + ((k'))) ?_ (q + q') (k + k' + 1) ?_ ?_ ?_ ?_).mono ?_); (exact h7.iz); (exact h8.iz); (exact Int.mul_ne_zero (den_ne _) (den_ne _)); (exact (add_q _ _).symm); (exact Sz_add HS.out HS'.out); (omega); rintro e wr ⟨b9, A9, n9, c9, A'9, n'9, c'9, rfl, h9, hbr⟩
      have hz := hK.out _ _ ⟨b9, A9, n9, c9, A'9, n'9, c'9, rfl, h9⟩ hbr
      simp only [d6, d9] at hz
      exact hz⟩
  · exact .inr (.inr (.inr ⟨⟨w.heap.size + 1 + 1, 11, 0, 24, #[.bool false, .slice none 0 0, .slice none 0 0], CQ (q + q') (k + k' + 1)⟩, by simp, rfl, by simp, by simp, (show KT 24 = false by decide), fun _ _ => True.intro, fun xf wq hblk hd => by
      obtain ⟨b9, A9, n9, c9, A'9, n'9, c'9, d10, h9⟩ : VQ (q + q') (k + k' + 1) (xf 10) wq := hd ⟨10, .data⟩ (by simp) rfl
      dsimp only at hblk
      refine ⟨[.bool b9, .slice A9 n9 c9, .slice A'9 n'9 c'9], fun w' hk => ⟨b9, A9, n9, c9, A'9, n'9, c'9, rfl, h9.keep hk⟩, fun K hK => ?_⟩
      have hc0 : wq.cell? ⟨w.heap.size + 1 + 1, 0, none⟩ = some (.bool false) := hblk.cell 0
      have hc1 : wq.cell? ⟨w.heap.size + 1 + 1, 1, none⟩ = some (.slice none 0 0) := hblk.cell 1
      have hc2 : wq.cell? ⟨w.heap.size + 1 + 1, 2, none⟩ = some (.slice none 0 0) := hblk.cell 2
      have hf0 : wq.frozen? ⟨w.heap.size + 1 + 1, 0, none⟩ = false := hblk.frozen 0
      have hf1 : wq.frozen? ⟨w.heap.size + 1 + 1, 1, none⟩ = false := hblk.frozen 1
      have hf2 : wq.frozen? ⟨w.heap.size + 1 + 1, 2, none⟩ = false := hblk.frozen 2
      (try dsimp only)
      simp only [d10]
      go_simp
      have hz := hK.out undef
      simp only [d10] at hz
      exact hz⟩))
  clear cx2_0_0 cx2_0_1 lx2_0_0 lx2_0_1 lx2_0_2 lx2_0_3 cx2_1_0 cx2_1_1 lx2_1_0 lx2_1_1 lx2_1_2 lx2_1_3 cx3_0_0 cx3_0_1 lx3_0_0 lx3_0_1 lx3_0_2 lx3_0_3 cx3_1_0 cx3_1_1 lx3_1_0 lx3_1_1 lx3_1_2 lx3_1_3
  intro y4 w4 kq4 hbl4 lw4 how hrr hfl hds
  replace h := h.keep kq4
  replace h' := h'.keep kq4
  replace h1 := h1.keep kq4
  replace h'1 := h'1.keep kq4
  replace h2 := h2.keep kq4
  replace h'2 := h'2.keep kq4
  obtain ⟨_, z4_0, ez, _⟩ := how _ (List.Mem.head _)
  obtain rfl := ez (by simp)
  dsimp only at z4_0
  obtain ⟨_, z4_1, ez, _⟩ := how _ (List.Mem.tail _ (List.Mem.head _))
  obtain rfl := ez (by simp)
  dsimp only at z4_1
  obtain ⟨_, z4_2, _, ez⟩ := how _ (List.Mem.tail _ (List.Mem.tail _ (List.Mem.head _)))
  obtain ⟨b9, A9, n9, c9, A'9, n'9, c'9, rfl, h9⟩ := ez (by simp)
  dsimp only at z4_2
  obtain ⟨_, z4_3, ez, _⟩ := how _ (List.Mem.tail _ (List.Mem.tail _ (List.Mem.tail _ (List.Mem.head _))))
  obtain rfl := ez (by simp)
  dsimp only at z4_3
  obtain ⟨_, z4_4, ez, _⟩ := how _ (List.Mem.tail _ (List.Mem.tail _ (List.Mem.tail _ (List.Mem.tail _ (List.Mem.head _)))))
  obtain rfl := ez (by simp)
  dsimp only at z4_4
  obtain ⟨_, z4_5, ez, _⟩ := how _ (List.Mem.tail _ (List.Mem.tail _ (List.Mem.tail _ (List.Mem.tail _ (List.Mem.tail _ (List.Mem.head _))))))
  obtain rfl := ez (by simp)
  dsimp only at z4_5
  obtain ⟨_, z4_6, ez, _⟩ := how _ (List.Mem.tail _ (List.Mem.tail _ (List.Mem.tail _ (List.Mem.tail _ (List.Mem.tail _ (List.Mem.tail _ (List.Mem.head _)))))))
  obtain rfl := ez (by simp)
  dsimp only at z4_6
  (try dsimp only)
  clear hrr hfl how hds 
  clear x1_0 x1_1 x1_2 x2_0 x2_1 x3_0 x3_1
  have bw4 : Below w.heap.size w w4 := bw3.trans hbl4
  clear bw3
  have cz4_2_0 : w4.cell? ⟨w.heap.size + 1 + 1, 0, none⟩ = some (.bool b9) := z4_2.cell 0
  have cz4_2_1 : w4.cell? ⟨w.heap.size + 1 + 1, 1, none⟩ = some (.slice A9 n9 c9) := z4_2.cell 1
  have cz4_2_2 : w4.cell? ⟨w.heap.size + 1 + 1, 2, none⟩ = some (.slice A'9 n'9 c'9) := z4_2.cell 2
  have lz4_2_0 : w.heap.size + 2 < w4.heap.size := by have := z4_2.lt; omega
  have lz4_2_1 : w.heap.size + 1 < w4.heap.size := by have := z4_2.lt; omega
  have lz4_2_2 : w.heap.size < w4.heap.size := by have := z4_2.lt; omega
  have lz4_2_3 : w.heap.size < w4.heap.size + 1 := by have := z4_2.lt; omega
  go_wp2_with fail
  refine bodyPost_ret (v := .agg #[.bool b9, .slice A9 n9 c9, .slice A'9 n'9 c'9]) (by simp [results, Try.results77, go_sem, *] <;> first | rfl | exact ⟨rfl, rfl⟩) rfl ?_
  exact ⟨b9, A9, n9, c9, A'9, n'9, c'9, rfl, h9.keep (Kp.refl w4), bw4⟩
set_option maxRecDepth 100000 in
set_option maxHeartbeats 2000000 in
/-- linkworkref02.Sub -/
theorem g_sub (w : World) (b : Bool) (A : Option Addr) (n c : Nat) (D : Option Addr) (m e : Nat) (q : Rat) (k : Nat) (h : QZ w b A n c D m e q k) (b' : Bool) (A' : Option Addr) (n' c' : Nat) (D' : Option Addr) (m' e' : Nat) (q' : Rat) (k' : Nat) (h' : QZ w b' A' n' c' D' m' e' q' k') (h0 : 0 < k) (hk : k ≤ 40000000) (h0' : 0 < k') (hk' : k' ≤ 40000000) :
    Calls Try.prog 62 #[.agg #[.bool b, .slice A n c, .slice D m e], .agg #[.bool b', .slice A' n' c', .slice D' m' e']] w (RetF w (q - q') (k + k' + 1)) := by
  rw [show q - q' = q + -q' from Rat.sub_eq_add_neg q q']
  go_enter Try.func62, Try.ntmps62
  go_wp2_with fail
  have p1 : Kp w (((w.alloc (.cells #[.bool b, .slice A n c, .slice D m e] 24)).alloc (.cells #[.bool b', .slice A' n' c', .slice D' m' e'] 24)).alloc (.cells #[.bool false, .slice none 0 0, .slice none 0 0] 24)) := ((((Kp.refl w).alloc (.cells #[.bool b, .slice A n c, .slice D m e] 24)).alloc (.cells #[.bool b', .slice A' n' c', .slice D' m' e'] 24)).alloc (.cells #[.bool false, .slice none 0 0, .slice none 0 0] 24))
  have bw1 : Below w.heap.size w (((w.alloc (.cells #[.bool b, .slice A n c, .slice D m e] 24)).alloc (.cells #[.bool b', .slice A' n' c', .slice D' m' e'] 24)).alloc (.cells #[.bool false, .slice none 0 0, .slice none 0 0] 24)) := ((((brefl w).alloc (by first | omega | (simp <;> omega)) (.cells #[.bool b, .slice A n c, .slice D m e] 24)).alloc (by first | omega | (simp <;> omega)) (.cells #[.bool b', .slice A' n' c', .slice D' m' e'] 24)).alloc (by first | omega | (simp <;> omega)) (.cells #[.bool false, .slice none 0 0, .slice none 0 0] 24))
  have x1_0 : Blk (((w.alloc (.cells #[.bool b, .slice A n c, .slice D m e] 24)).alloc (.cells #[.bool b', .slice A' n' c', .slice D' m' e'] 24)).alloc (.cells #[.bool false, .slice none 0 0, .slice none 0 0] 24)) (w.heap.size) 24 #[.bool b, .slice A n c, .slice D m e] := (((blkAt _ _ _ (by simp)).alloc (.cells #[.bool b', .slice A' n' c', .slice D' m' e'] 24)).alloc (.cells #[.bool false, .slice none 0 0, .slice none 0 0] 24))
  have x1_1 : Blk (((w.alloc (.cells #[.bool b, .slice A n c, .slice D m e] 24)).alloc (.cells #[.bool b', .slice A' n' c', .slice D' m' e'] 24)).alloc (.cells #[.bool false, .slice none 0 0, .slice none 0 0] 24)) (w.heap.size + 1) 24 #[.bool b', .slice A' n' c', .slice D' m' e'] := ((blkAt _ _ _ (by simp)).alloc (.cells #[.bool false, .slice none 0 0, .slice none 0 0] 24))
  have x1_2 : Blk (((w.alloc (.cells #[.bool b, .slice A n c, .slice D m e] 24)).alloc (.cells #[.bool b', .slice A' n' c', .slice D' m' e'] 24)).alloc (.cells #[.bool false, .slice none 0 0, .slice none 0 0] 24)) (w.heap.size + 1 + 1) 24 #[.bool false, .slice none 0 0, .slice none 0 0] := (blkAt _ _ _ (by simp))
  have lw1 : w.heap.size + 3 ≤ (((w.alloc (.cells #[.bool b, .slice A n c, .slice D m e] 24)).alloc (.cells #[.bool b', .slice A' n' c', .slice D' m' e'] 24)).alloc (.cells #[.bool false, .slice none 0 0, .slice none 0 0] 24)).heap.size := by simp
  generalize hE1 : (((w.alloc (.cells #[.bool b, .slice A n c, .slice D m e] 24)).alloc (.cells #[.bool b', .slice A' n' c', .slice D' m' e'] 24)).alloc (.cells #[.bool false, .slice none 0 0, .slice none 0 0] 24)) = w1 at p1 bw1 lw1 x1_0 x1_1 x1_2 ⊢
  clear hE1
  replace h := h.keep p1
  replace h' := h'.keep p1
  have cx1_0_0 : w1.cell? ⟨w.heap.size, 0, none⟩ = some (.bool b) := x1_0.cell 0
  have cx1_0_1 : w1.cell? ⟨w.heap.size, 1, none⟩ = some (.slice A n c) := x1_0.cell 1
  have cx1_0_2 : w1.cell? ⟨w.heap.size, 2, none⟩ = some (.slice D m e) := x1_0.cell 2
  have lx1_0_0 : w.heap.size < w1.heap.size := by have := x1_0.lt; omega
  have lx1_0_1 : w.heap.size < w1.heap.size + 1 := by have := x1_0.lt; omega
  have lx1_0_2 : w.heap.size < w1.heap.size + 2 := by have := x1_0.lt; omega
  have lx1_0_3 : w.heap.size < w1.heap.size + 3 := by have := x1_0.lt; omega
  have cx1_1_0 : w1.cell? ⟨w.heap.size + 1, 0, none⟩ = some (.bool b') := x1_1.cell 0
  have cx1_1_1 : w1.cell? ⟨w.heap.size + 1, 1, none⟩ = some (.slice A' n' c') := x1_1.cell 1
  have cx1_1_2 : w1.cell? ⟨w.heap.size + 1, 2, none⟩ = some (.slice D' m' e') := x1_1.cell 2
  have lx1_1_0 : w.heap.size + 1 < w1.heap.size := by have := x1_1.lt; omega
  have lx1_1_1 : w.heap.size < w1.heap.size := by have := x1_1.lt; omega
  have lx1_1_2 : w.heap.size < w1.heap.size + 1 := by have := x1_1.lt; omega
  have lx1_1_3 : w.heap.size < w1.heap.size + 2 := by have := x1_1.lt; omega
  have cx1_2_0 : w1.cell? ⟨w.heap.size + 1 + 1, 0, none⟩ = some (.bool false) := x1_2.cell 0
  have fx1_2_0 : w1.frozen? ⟨w.heap.size + 1 + 1, 0, none⟩ = false := x1_2.frozen 0
  have cx1_2_1 : w1.cell? ⟨w.heap.size + 1 + 1, 1, none⟩ = some (.slice none 0 0) := x1_2.cell 1
  have fx1_2_1 : w1.frozen? ⟨w.heap.size + 1 + 1, 1, none⟩ = false := x1_2.frozen 1
  have cx1_2_2 : w1.cell? ⟨w.heap.size + 1 + 1, 2, none⟩ = some (.slice none 0 0) := x1_2.cell 2
  have fx1_2_2 : w1.frozen? ⟨w.heap.size + 1 + 1, 2, none⟩ = false := x1_2.frozen 2
  have lx1_2_0 : w.heap.size + 2 < w1.heap.size := by have := x1_2.lt; omega
  have lx1_2_1 : w.heap.size + 1 < w1.heap.size := by have := x1_2.lt; omega
  have lx1_2_2 : w.heap.size < w1.heap.size := by have := x1_2.lt; omega
  have lx1_2_3 : w.heap.size < w1.heap.size + 1 := by have := x1_2.lt; omega
  have nfx1_0_0 : ¬ w.heap.size = w.heap.size + 1 + 1 := by omega
  have nex1_0_0 : ¬ w.heap.size = w.heap.size + 2 := by omega
  have nfx1_1_0 : ¬ w.heap.size + 1 = w.heap.size + 1 + 1 := by omega
  have nex1_1_0 : ¬ w.heap.size = w.heap.size + 1 := by omega
  go_region_held3 (fun w' => SeesX w1.heap.size (w.heap.size + 1 + 1) w1 w') (first | with_reducible exact SeesX.of (Nat.le_refl _) (by assumption) | with_reducible exact SeesX.of (Nat.le_refl _) (brefl _).drew | with_reducible exact (SeesX.set (SeesX.set (SeesX.set (SeesX.of (Nat.le_refl _) (by assumption))))) | with_reducible exact (SeesX.set (SeesX.set (SeesX.of (Nat.le_refl _) (by assumption)))) | with_reducible exact (SeesX.set (SeesX.of (Nat.le_refl _) (by assumption))) | exact SeesX.of (Nat.le_refl _) (below_drewN (brefl _) 1) | exact SeesX.of (Nat.le_refl _) (below_drewN (by assumption) _))
    (first
      | (go_at_call 78; (with_reducible refine (g_neg _ b' A' n' c' D' m' e' (q') (k') ?_ ?_ ?_).mono ?_); (exact h'); (first | omega | decide | assumption); (first | omega | decide | assumption); rintro e w2 ⟨b2, A2, n2, c2, A'2, n'2, c'2, rfl, h2, hb2⟩; replace hb2 := bnext (below_drewN (brefl _) 1) hb2; have q2 : Below w1.heap.size w1 w2 := bnext (brefl w1) hb2; replace h := h.belw hb2; replace h' := h'.belw hb2)
      | (go_at_call 77; (with_reducible refine (g_add _ b A n c D m e (q) (k) ?_ b2 A2 n2 c2 A'2 n'2 c'2 (-(q')) ((k')) ?_ ?_ ?_ ?_ ?_).mono ?_); (exact h); (exact h2.qz); (first | omega | decide | assumption); (first | omega | decide | assumption); (first | omega | decide | assumption); (first | omega | decide | assumption); rintro e w3 ⟨b3, A3, n3, c3, A'3, n'3, c'3, rfl, h3, hb3⟩; have q3 : Below w1.heap.size w1 w3 := bnext q2 hb3; replace h := h.belw hb3; replace h' := h'.belw hb3; replace h2 := h2.belw hb3; have x1_2 : Blk w3 (w.heap.size + 1 + 1) 24 #[.bool false, .slice none 0 0, .slice none 0 0] := x1_2.below q3 x1_2.lt; have cx1_2_0 : w3.cell? ⟨w.heap.size + 1 + 1, 0, none⟩ = some (.bool false) := x1_2.cell 0; have cx1_2_1 : w3.cell? ⟨w.heap.size + 1 + 1, 1, none⟩ = some (.slice none 0 0) := x1_2.cell 1; have cx1_2_2 : w3.cell? ⟨w.heap.size + 1 + 1, 2, none⟩ = some (.slice none 0 0) := x1_2.cell 2; have fx1_2_0 : w3.frozen? ⟨w.heap.size + 1 + 1, 0, none⟩ = false := x1_2.frozen 0; have fx1_2_1 : w3.frozen? ⟨w.heap.size + 1 + 1, 1, none⟩ = false := x1_2.frozen 1; have fx1_2_2 : w3.frozen? ⟨w.heap.size + 1 + 1, 2, none⟩ = false := x1_2.frozen 2))
  have bw3 : Below w.heap.size w w3 := bw1.trans (q3.mono bw1.size)
  clear cx1_0_0 cx1_0_1 cx1_0_2 lx1_0_0 lx1_0_1 lx1_0_2 lx1_0_3 cx1_1_0 cx1_1_1 cx1_1_2 lx1_1_0 lx1_1_1 lx1_1_2 lx1_1_3 cx1_2_0 fx1_2_0 cx1_2_1 fx1_2_1 cx1_2_2 fx1_2_2 lx1_2_0 lx1_2_1 lx1_2_2 lx1_2_3
  replace x1_0 : Blk w3 (w.heap.size) 24 #[.bool b, .slice A n c, .slice D m e] := x1_0.below q3 x1_0.lt
  replace x1_1 : Blk w3 (w.heap.size + 1) 24 #[.bool b', .slice A' n' c', .slice D' m' e'] := x1_1.below q3 x1_1.lt
  have lw3 : w1.heap.size ≤ w3.heap.size := q3.size
  have cx1_2_0 : w3.cell? ⟨w.heap.size + 1 + 1, 0, none⟩ = some (.bool false) := x1_2.cell 0
  have fx1_2_0 : w3.frozen? ⟨w.heap.size + 1 + 1, 0, none⟩ = false := x1_2.frozen 0
  have cx1_2_1 : w3.cell? ⟨w.heap.size + 1 + 1, 1, none⟩ = some (.slice none 0 0) := x1_2.cell 1
  have fx1_2_1 : w3.frozen? ⟨w.heap.size + 1 + 1, 1, none⟩ = false := x1_2.frozen 1
  have cx1_2_2 : w3.cell? ⟨w.heap.size + 1 + 1, 2, none⟩ = some (.slice none 0 0) := x1_2.cell 2
  have fx1_2_2 : w3.frozen? ⟨w.heap.size + 1 + 1, 2, none⟩ = false := x1_2.frozen 2
  go_wp2_with fail
  refine bodyPost_ret (v := .agg #[.bool b3, .slice A3 n3 c3, .slice A'3 n'3 c'3]) (by simp [results, Try.results62, go_sem, *] <;> first | rfl | exact ⟨rfl, rfl⟩) rfl ?_
  exact ⟨b3, A3, n3, c3, A'3, n'3, c'3, rfl, h3.keep ((((Kp.refl w3).setB (p := ⟨w.heap.size + 1 + 1, 0, none⟩) x1_2.box (by decide) (.bool b3)).setB (p := ⟨w.heap.size + 1 + 1, 1, none⟩) (x1_2.box.set ⟨w.heap.size + 1 + 1, 0, none⟩ (.bool b3)) (by decide) (.slice A3 n3 c3)).setB (p := ⟨w.heap.size + 1 + 1, 2, none⟩) ((x1_2.box.set ⟨w.heap.size + 1 + 1, 0, none⟩ (.bool b3)).set ⟨w.heap.size + 1 + 1, 1, none⟩ (.slice A3 n3 c3)) (by decide) (.slice A'3 n'3 c'3)), (((bw3.setCell (p := ⟨w.heap.size + 1 + 1, 0, none⟩) (by dsimp only; omega) (.bool b3)).setCell (p := ⟨w.heap.size + 1 + 1, 1, none⟩) (by dsimp only; omega) (.slice A3 n3 c3)).setCell (p := ⟨w.heap.size + 1 + 1, 2, none⟩) (by dsimp only; omega) (.slice A'3 n'3 c'3))⟩
set_option maxRecDepth 100000 in
set_option maxHeartbeats 2000000 in
/-- linkworkref02.Cmp -/
theorem g_cmp (w : World) (b : Bool) (A : Option Addr) (n c : Nat) (D : Option Addr) (m e : Nat) (q : Rat) (k : Nat) (h : QZ w b A n c D m e q k) (b' : Bool) (A' : Option Addr) (n' c' : Nat) (D' : Option Addr) (m' e' : Nat) (q' : Rat) (k' : Nat) (h' : QZ w b' A' n' c' D' m' e' q' k') (h0 : 0 < k) (hk : k ≤ 10000000) (h0' : 0 < k') (hk' : k' ≤ 10000000) :
    Calls Try.prog 38 #[.agg #[.bool b, .slice A n c, .slice D m e], .agg #[.bool b', .slice A' n' c', .slice D' m' e']] w (RetV w (.int .i64 (q - q').num.sign)) := by
  go_enter Try.func38, Try.ntmps38
  go_wp2_with fail
  (with_reducible refine (g_sub _ b A n c D m e (q) (k) ?_ b' A' n' c' D' m' e' (q') (k') ?_ ?_ ?_ ?_ ?_).mono ?_); (exact (h.belw (((Below.refl _ _).alloc (Nat.le_refl _) _).alloc (by simp) _))); (exact (h'.belw (((Below.refl _ _).alloc (Nat.le_refl _) _).alloc (by simp) _))); (first | omega | decide | assumption); (first | omega | decide | assumption); (first | omega | decide | assumption); (first | omega | decide | assumption); rintro e w1 ⟨b1, A1, n1, c1, A'1, n'1, c'1, rfl, h1, hb1⟩
  have q1 : Below w.heap.size w w1 := (((Below.refl _ _).alloc (Nat.le_refl _) _).alloc (by simp) _).trans (hb1.mono (by simp <;> omega))
  replace h := h.belw q1
  replace h' := h'.belw q1
  have x1_0 : Blk w1 (w.heap.size) 24 #[.bool b, .slice A n c, .slice D m e] := ((blkAt _ _ _ (by simp)).alloc _).below hb1 (by simp <;> omega)
  have x1_1 : Blk w1 (w.heap.size + 1) 24 #[.bool b', .slice A' n' c', .slice D' m' e'] := (blkAt _ _ _ (by simp)).below hb1 (by simp)
  have bw1 : Below w.heap.size w w1 := (brefl w).trans (q1.mono (brefl w).size)
  have lw1 : w.heap.size + 2 ≤ w1.heap.size := by have := hb1.size; simp at this; omega
  clear hb1 q1
  go_wp2_with fail
  (with_reducible refine (g_sign _ b1 A1 n1 c1 A'1 n'1 c'1 ((q) - (q')) ((k) + (k') + 1) ?_ ?_ ?_).mono ?_); (exact h1.qz); (first | omega | decide | assumption); (first | omega | decide | assumption); rintro e w2 ⟨rfl, hb2⟩
  have q2 : Below w1.heap.size w1 w2 := hb2
  replace h := h.belw q2
  replace h' := h'.belw q2
  replace h1 := h1.belw q2
  replace x1_0 : Blk w2 (w.heap.size) 24 #[.bool b, .slice A n c, .slice D m e] := x1_0.below q2 x1_0.lt
  replace x1_1 : Blk w2 (w.heap.size + 1) 24 #[.bool b', .slice A' n' c', .slice D' m' e'] := x1_1.below q2 x1_1.lt
  have bw2 : Below w.heap.size w w2 := bw1.trans (q2.mono bw1.size)
  have lw2 : w1.heap.size ≤ w2.heap.size := q2.size
  clear hb2 q2 bw1
  go_wp2_with fail
  go_ret
  exact retI rfl bw2
set_option maxRecDepth 100000 in
set_option maxHeartbeats 2000000 in
/-- linkworkref02.From -/
theorem g_from (w : World) (b : Bool) (A : Option Addr) (n c : Nat) (z : Int) (k : Nat) (h : IZ w b A n c z k) (b' : Bool) (A' : Option Addr) (n' c' : Nat) (z' : Int) (k' : Nat) (h' : IZ w b' A' n' c' z' k') (q : Rat) (K : Nat) (hd : z' ≠ 0) (hq : Rat.divInt z z' = q) (hs : Sz q K) (hk : k + k' ≤ 300000000) :
    Calls Try.prog 65 #[.agg #[.bool b, .slice A n c], .agg #[.bool b', .slice A' n' c']] w (RetFe w (.int .i64 0) q K) := by
  obtain ⟨s, hs1⟩ : ∃ s, z'.sign = s := ⟨_, rfl⟩
  have e0 : ((s : Int) == 0) = false := by simp; rintro rfl; exact hd (Int.sign_eq_zero_iff_zero.1 hs1)
  have HS1 := Lib.hid hs1
  have HD := Lib.hid hd
  have HQ := Lib.hid hq
  have HS := Lib.hid hs
  clear hs1 hd hq hs
  go_enter Try.func65, Try.ntmps65
  go_wp2_with fail
  (with_reducible refine (r01_sign_e _ b' A' n' c' (z') (k') ?_ s ?_ ?_).mono ?_); (exact (h'.belw ((((Below.refl _ _).alloc (Nat.le_refl _) _).alloc (by simp) _).alloc (by simp <;> omega) _))); (exact HS1.out); (omega); rintro e w1 ⟨rfl, hb1⟩
  have q1 : Below w.heap.size w w1 := ((((Below.refl _ _).alloc (Nat.le_refl _) _).alloc (by simp) _).alloc (by simp <;> omega) _).trans (hb1.mono (by simp <;> omega))
  replace h := h.belw q1
  replace h' := h'.belw q1
  have x1_0 : Blk w1 (w.heap.size) 63 #[.bool b, .slice A n c] := (((blkAt _ _ _ (by simp)).alloc _).alloc _).below hb1 (by simp <;> omega)
  have x1_1 : Blk w1 (w.heap.size + 1) 63 #[.bool b', .slice A' n' c'] := ((blkAt _ _ _ (by simp)).alloc _).below hb1 (by simp <;> omega)
  have x1_2 : Blk w1 (w.heap.size + 1 + 1) 24 #[.bool false, .slice none 0 0, .slice none 0 0] := (blkAt _ _ _ (by simp)).below hb1 (by simp)
  have bw1 : Below w.heap.size w w1 := (brefl w).trans (q1.mono (brefl w).size)
  have lw1 : w.heap.size + 3 ≤ w1.heap.size := by have := hb1.size; simp at this; omega
  clear hb1 q1
  have cx1_0_0 : w1.cell? ⟨w.heap.size, 0, none⟩ = some (.bool b) := x1_0.cell 0
  have cx1_0_1 : w1.cell? ⟨w.heap.size, 1, none⟩ = some (.slice A n c) := x1_0.cell 1
  have lx1_0_0 : w.heap.size < w1.heap.size := by have := x1_0.lt; omega
  have lx1_0_1 : w.heap.size < w1.heap.size + 1 := by have := x1_0.lt; omega
  have lx1_0_2 : w.heap.size < w1.heap.size + 2 := by have := x1_0.lt; omega
  have lx1_0_3 : w.heap.size < w1.heap.size + 3 := by have := x1_0.lt; omega
  have cx1_1_0 : w1.cell? ⟨w.heap.size + 1, 0, none⟩ = some (.bool b') := x1_1.cell 0
  have cx1_1_1 : w1.cell? ⟨w.heap.size + 1, 1, none⟩ = some (.slice A' n' c') := x1_1.cell 1
  have lx1_1_0 : w.heap.size + 1 < w1.heap.size := by have := x1_1.lt; omega
  have lx1_1_1 : w.heap.size < w1.heap.size := by have := x1_1.lt; omega
  have lx1_1_2 : w.heap.size < w1.heap.size + 1 := by have := x1_1.lt; omega
  have lx1_1_3 : w.heap.size < w1.heap.size + 2 := by have := x1_1.lt; omega
  go_wp2_with fail
  (with_reducible refine (g_form _ b A n c (z) (k) ?_ b' A' n' c' (z') (k') ?_ q K ?_ ?_ ?_ ?_).mono ?_); (exact h); (exact h'); (exact HD.out); (exact HQ.out); (exact HS.out); (omega); rintro e w2 ⟨b2, A2, n2, c2, A'2, n'2, c'2, rfl, h2, hb2⟩
  clear cx1_0_0 cx1_0_1 lx1_0_0 lx1_0_1 lx1_0_2 lx1_0_3 cx1_1_0 cx1_1_1 lx1_1_0 lx1_1_1 lx1_1_2 lx1_1_3
  have q2 : Below w1.heap.size w1 w2 := hb2
  replace h := h.belw q2
  replace h' := h'.belw q2
  replace x1_0 : Blk w2 (w.heap.size) 63 #[.bool b, .slice A n c] := x1_0.below q2 x1_0.lt
  replace x1_1 : Blk w2 (w.heap.size + 1) 63 #[.bool b', .slice A' n' c'] := x1_1.below q2 x1_1.lt
  replace x1_2 : Blk w2 (w.heap.size + 1 + 1) 24 #[.bool false, .slice none 0 0, .slice none 0 0] := x1_2.below q2 x1_2.lt
  have bw2 : Below w.heap.size w w2 := bw1.trans (q2.mono bw1.size)
  have lw2 : w1.heap.size ≤ w2.heap.size := q2.size
  clear hb2 q2 bw1
  have cx1_2_0 : w2.cell? ⟨w.heap.size + 1 + 1, 0, none⟩ = some (.bool false) := x1_2.cell 0
  have fx1_2_0 : w2.frozen? ⟨w.heap.size + 1 + 1, 0, none⟩ = false := x1_2.frozen 0
  have cx1_2_1 : w2.cell? ⟨w.heap.size + 1 + 1, 1, none⟩ = some (.slice none 0 0) := x1_2.cell 1
  have fx1_2_1 : w2.frozen? ⟨w.heap.size + 1 + 1, 1, none⟩ = false := x1_2.frozen 1
  have cx1_2_2 : w2.cell? ⟨w.heap.size + 1 + 1, 2, none⟩ = some (.slice none 0 0) := x1_2.cell 2
  have fx1_2_2 : w2.frozen? ⟨w.heap.size + 1 + 1, 2, none⟩ = false := x1_2.frozen 2
  have lx1_2_0 : w.heap.size + 2 < w2.heap.size := by have := x1_2.lt; omega
  have lx1_2_1 : w.heap.size + 1 < w2.heap.size := by have := x1_2.lt; omega
  have lx1_2_2 : w.heap.size < w2.heap.size := by have := x1_2.lt; omega
  have lx1_2_3 : w.heap.size < w2.heap.size + 1 := by have := x1_2.lt; omega
  go_wp2_with fail
  refine bodyPost_ret (v := .tuple #[.agg #[.bool b2, .slice A2 n2 c2, .slice A'2 n'2 c'2], .int .i64 0]) (by simp [results, Try.results65, go_sem, *] <;> first | rfl | exact ⟨rfl, rfl⟩) rfl ?_
  exact ⟨b2, A2, n2, c2, A'2, n'2, c'2, rfl, h2.keep ((((Kp.refl w2).setB (p := ⟨w.heap.size + 1 + 1, 0, none⟩) x1_2.box (by decide) (.bool b2)).setB (p := ⟨w.heap.size + 1 + 1, 1, none⟩) (x1_2.box.set ⟨w.heap.size + 1 + 1, 0, none⟩ (.bool b2)) (by decide) (.slice A2 n2 c2)).setB (p := ⟨w.heap.size + 1 + 1, 2, none⟩) ((x1_2.box.set ⟨w.heap.size + 1 + 1, 0, none⟩ (.bool b2)).set ⟨w.heap.size + 1 + 1, 1, none⟩ (.slice A2 n2 c2)) (by decide) (.slice A'2 n'2 c'2)), (((bw2.setCell (p := ⟨w.heap.size + 1 + 1, 0, none⟩) (by dsimp only; omega) (.bool b2)).setCell (p := ⟨w.heap.size + 1 + 1, 1, none⟩) (by dsimp only; omega) (.slice A2 n2 c2)).setCell (p := ⟨w.heap.size + 1 + 1, 2, none⟩) (by dsimp only; omega) (.slice A'2 n'2 c'2))⟩
set_option maxRecDepth 100000 in
set_option maxHeartbeats 2000000 in
/-- linkworkref02.Make -/
theorem g_make (w : World) (i j : Int) (hi : -4294967296 < i) (hi2 : i < 4294967296) (hj : -4294967296 < j) (hj2 : j < 4294967296) (q : Rat) (K : Nat) (hd : j ≠ 0) (hq : Rat.divInt i j = q) (hs : Sz q K) :
    Calls Try.prog 45 #[.int .i64 i, .int .i64 j] w (RetFe w (.int .i64 0) q K) := by
  have HD := Lib.hid hd
  have HQ := Lib.hid hq
  have HS := Lib.hid hs
  clear hd hq hs
  go_enter Try.func45, Try.ntmps45
  go_wp2_with fail
  (with_reducible refine (r01_of1 _ (i) ?_ ?_).mono ?_); (first | omega | decide | assumption); (first | omega | decide | assumption); rintro e w1 ⟨b1, A1, n1, c1, rfl, h1, hb1⟩
  have q1 : Below w.heap.size w w1 := ((Below.refl _ _).alloc (Nat.le_refl _) _).trans (hb1.mono (by simp))
  have x1_0 : Blk w1 (w.heap.size) 24 #[.bool false, .slice none 0 0, .slice none 0 0] := (blkAt _ _ _ (by simp)).below hb1 (by simp)
  have bw1 : Below w.heap.size w w1 := (brefl w).trans (q1.mono (brefl w).size)
  have lw1 : w.heap.size + 1 ≤ w1.heap.size := by have := hb1.size; simp at this; omega
  clear hb1 q1
  go_wp2_with fail
  (with_reducible refine (r01_of1 _ (j) ?_ ?_).mono ?_); (first | omega | decide | assumption); (first | omega | decide | assumption); rintro e w2 ⟨b2, A2, n2, c2, rfl, h2, hb2⟩
  have q2 : Below w1.heap.size w1 w2 := hb2
  replace h1 := h1.belw q2
  replace x1_0 : Blk w2 (w.heap.size) 24 #[.bool false, .slice none 0 0, .slice none 0 0] := x1_0.below q2 x1_0.lt
  have bw2 : Below w.heap.size w w2 := bw1.trans (q2.mono bw1.size)
  have lw2 : w1.heap.size ≤ w2.heap.size := q2.size
  clear hb2 q2 bw1
  go_wp2_with fail
  (with_reducible refine (g_from _ b1 A1 n1 c1 (i) (1) ?_ b2 A2 n2 c2 (j) (1) ?_ q K ?_ ?_ ?_ ?_).mono ?_); (exact h1.iz); (exact h2.iz); (exact HD.out); (exact HQ.out); (exact HS.out); (decide); rintro e w3 ⟨b3, A3, n3, c3, A'3, n'3, c'3, rfl, h3, hb3⟩
  have q3 : Below w2.heap.size w2 w3 := hb3
  replace h1 := h1.belw q3
  replace h2 := h2.belw q3
  replace x1_0 : Blk w3 (w.heap.size) 24 #[.bool false, .slice none 0 0, .slice none 0 0] := x1_0.below q3 x1_0.lt
  have bw3 : Below w.heap.size w w3 := bw2.trans (q3.mono bw2.size)
  have lw3 : w2.heap.size ≤ w3.heap.size := q3.size
  clear hb3 q3 bw2
  have cx1_0_0 : w3.cell? ⟨w.heap.size, 0, none⟩ = some (.bool false) := x1_0.cell 0
  have fx1_0_0 : w3.frozen? ⟨w.heap.size, 0, none⟩ = false := x1_0.frozen 0
  have cx1_0_1 : w3.cell? ⟨w.heap.size, 1, none⟩ = some (.slice none 0 0) := x1_0.cell 1
  have fx1_0_1 : w3.frozen? ⟨w.heap.size, 1, none⟩ = false := x1_0.frozen 1
  have cx1_0_2 : w3.cell? ⟨w.heap.size, 2, none⟩ = some (.slice none 0 0) := x1_0.cell 2
  have fx1_0_2 : w3.frozen? ⟨w.heap.size, 2, none⟩ = false := x1_0.frozen 2
  have lx1_0_0 : w.heap.size < w3.heap.size := by have := x1_0.lt; omega
  have lx1_0_1 : w.heap.size < w3.heap.size + 1 := by have := x1_0.lt; omega
  have lx1_0_2 : w.heap.size < w3.heap.size + 2 := by have := x1_0.lt; omega
  have lx1_0_3 : w.heap.size < w3.heap.size + 3 := by have := x1_0.lt; omega
  go_wp2_with fail
  refine bodyPost_ret (v := .tuple #[.agg #[.bool b3, .slice A3 n3 c3, .slice A'3 n'3 c'3], .int .i64 0]) (by simp [results, Try.results45, go_sem, *] <;> first | rfl | exact ⟨rfl, rfl⟩) rfl ?_
  exact ⟨b3, A3, n3, c3, A'3, n'3, c'3, rfl, h3.keep ((((Kp.refl w3).setB (p := ⟨w.heap.size, 0, none⟩) x1_0.box (by decide) (.bool b3)).setB (p := ⟨w.heap.size, 1, none⟩) (x1_0.box.set ⟨w.heap.size, 0, none⟩ (.bool b3)) (by decide) (.slice A3 n3 c3)).setB (p := ⟨w.heap.size, 2, none⟩) ((x1_0.box.set ⟨w.heap.size, 0, none⟩ (.bool b3)).set ⟨w.heap.size, 1, none⟩ (.slice A3 n3 c3)) (by decide) (.slice A'3 n'3 c'3)), (((bw3.setCell (p := ⟨w.heap.size, 0, none⟩) (by dsimp only; omega) (.bool b3)).setCell (p := ⟨w.heap.size, 1, none⟩) (by dsimp only; omega) (.slice A3 n3 c3)).setCell (p := ⟨w.heap.size, 2, none⟩) (by dsimp only; omega) (.slice A'3 n'3 c'3))⟩
end Go.Proofs.Ytmneloabphplmaa

/- Walks: turns. -/
namespace Go.Proofs.Ytmneloabphplmaa
open Go Go.RowKit Bn
attribute [local go_sem ↓] Go.wp_at_zero Go.wp_at_succ
set_option maxRecDepth 100000 in
set_option maxHeartbeats 2000000 in
/-- turn.over -/
theorem t_over (w : World) (b : Bool) (A : Option Addr) (n c : Nat) (D : Option Addr) (m e : Nat) (q : Rat) (k : Nat) (h : QZ w b A n c D m e q k) (b' : Bool) (A' : Option Addr) (n' c' : Nat) (D' : Option Addr) (m' e' : Nat) (q' : Rat) (k' : Nat) (h' : QZ w b' A' n' c' D' m' e' q' k') (h0 : 0 < k) (hk : k ≤ 40000000) (h0' : 0 < k') (hk' : k' ≤ 40000000) (hne : q' ≠ 0) :
    Calls Try.prog 44 #[.agg #[.bool b, .slice A n c, .slice D m e], .agg #[.bool b', .slice A' n' c', .slice D' m' e']] w (RetF w (q / q') (k + k')) := by
  have HN := Lib.hid hne
  clear hne
  go_enter Try.func44, Try.ntmps44
  go_wp2_with fail
  (with_reducible refine (f_div _ b A n c D m e (q) (k) ?_ b' A' n' c' D' m' e' (q') (k') ?_ ?_ ?_ ?_ ?_ ?_).mono ?_); (exact (h.belw ((((Below.refl _ _).alloc (Nat.le_refl _) _).alloc (by simp) _).alloc (by simp <;> omega) _))); (exact (h'.belw ((((Below.refl _ _).alloc (Nat.le_refl _) _).alloc (by simp) _).alloc (by simp <;> omega) _))); (first | omega | decide | assumption); (first | omega | decide | assumption); (first | omega | decide | assumption); (first | omega | decide | assumption); (exact HN.out); rintro e w1 ⟨b1, A1, n1, c1, A'1, n'1, c'1, rfl, h1, hb1⟩
  have q1 : Below w.heap.size w w1 := ((((Below.refl _ _).alloc (Nat.le_refl _) _).alloc (by simp) _).alloc (by simp <;> omega) _).trans (hb1.mono (by simp <;> omega))
  replace h := h.belw q1
  replace h' := h'.belw q1
  have x1_0 : Blk w1 (w.heap.size) 24 #[.bool b, .slice A n c, .slice D m e] := (((blkAt _ _ _ (by simp)).alloc _).alloc _).below hb1 (by simp <;> omega)
  have x1_1 : Blk w1 (w.heap.size + 1) 24 #[.bool b', .slice A' n' c', .slice D' m' e'] := ((blkAt _ _ _ (by simp)).alloc _).below hb1 (by simp <;> omega)
  have x1_2 : Blk w1 (w.heap.size + 1 + 1) 24 #[.bool false, .slice none 0 0, .slice none 0 0] := (blkAt _ _ _ (by simp)).below hb1 (by simp)
  have bw1 : Below w.heap.size w w1 := (brefl w).trans (q1.mono (brefl w).size)
  have lw1 : w.heap.size + 3 ≤ w1.heap.size := by have := hb1.size; simp at this; omega
  clear hb1 q1
  have cx1_2_0 : w1.cell? ⟨w.heap.size + 1 + 1, 0, none⟩ = some (.bool false) := x1_2.cell 0
  have fx1_2_0 : w1.frozen? ⟨w.heap.size + 1 + 1, 0, none⟩ = false := x1_2.frozen 0
  have cx1_2_1 : w1.cell? ⟨w.heap.size + 1 + 1, 1, none⟩ = some (.slice none 0 0) := x1_2.cell 1
  have fx1_2_1 : w1.frozen? ⟨w.heap.size + 1 + 1, 1, none⟩ = false := x1_2.frozen 1
  have cx1_2_2 : w1.cell? ⟨w.heap.size + 1 + 1, 2, none⟩ = some (.slice none 0 0) := x1_2.cell 2
  have fx1_2_2 : w1.frozen? ⟨w.heap.size + 1 + 1, 2, none⟩ = false := x1_2.frozen 2
  have lx1_2_0 : w.heap.size + 2 < w1.heap.size := by have := x1_2.lt; omega
  have lx1_2_1 : w.heap.size + 1 < w1.heap.size := by have := x1_2.lt; omega
  have lx1_2_2 : w.heap.size < w1.heap.size := by have := x1_2.lt; omega
  have lx1_2_3 : w.heap.size < w1.heap.size + 1 := by have := x1_2.lt; omega
  go_wp2_with fail
  refine bodyPost_ret (v := .agg #[.bool b1, .slice A1 n1 c1, .slice A'1 n'1 c'1]) (by simp [results, Try.results44, go_sem, *] <;> first | rfl | exact ⟨rfl, rfl⟩) rfl ?_
  exact ⟨b1, A1, n1, c1, A'1, n'1, c'1, rfl, h1.keep (((((Kp.refl w1).setB (p := ⟨w.heap.size + 1 + 1, 0, none⟩) x1_2.box (by decide) (.bool b1)).setB (p := ⟨w.heap.size + 1 + 1, 1, none⟩) (x1_2.box.set ⟨w.heap.size + 1 + 1, 0, none⟩ (.bool b1)) (by decide) (.slice A1 n1 c1)).setB (p := ⟨w.heap.size + 1 + 1, 2, none⟩) ((x1_2.box.set ⟨w.heap.size + 1 + 1, 0, none⟩ (.bool b1)).set ⟨w.heap.size + 1 + 1, 1, none⟩ (.slice A1 n1 c1)) (by decide) (.slice A'1 n'1 c'1)).alloc (.cells #[.bool b1, .slice A1 n1 c1, .slice A'1 n'1 c'1] 24)), ((((bw1.setCell (p := ⟨w.heap.size + 1 + 1, 0, none⟩) (by dsimp only; omega) (.bool b1)).setCell (p := ⟨w.heap.size + 1 + 1, 1, none⟩) (by dsimp only; omega) (.slice A1 n1 c1)).setCell (p := ⟨w.heap.size + 1 + 1, 2, none⟩) (by dsimp only; omega) (.slice A'1 n'1 c'1)).alloc (by first | omega | (simp <;> omega)) (.cells #[.bool b1, .slice A1 n1 c1, .slice A'1 n'1 c'1] 24))⟩
set_option maxRecDepth 100000 in
set_option maxHeartbeats 2000000 in
/-- turn.half -/
theorem t_half (w : World)  :
    Calls Try.prog 42 #[] w (RetT w thalf 1) := by
  go_enter Try.func42, Try.ntmps42
  go_wp2_with fail
  refine bodyPost_ret (v := .agg #[.bool false, .slice none 0 0, .slice none 0 0, .bool true]) (by simp [results, Try.results42, go_sem, *] <;> first | rfl | exact ⟨rfl, rfl⟩) rfl ?_
  exact ⟨false, none, 0, 0, none, 0, 0, true, rfl, ⟨QV.zero _ _, rfl, fun _ => rfl⟩, (Below.refl _ _).alloc (Nat.le_refl _) _⟩
theorem f_sign_e (w : World) (b : Bool) (A : Option Addr) (n c : Nat) (D : Option Addr) (m e : Nat) (q : Rat) (k : Nat) (h : QZ w b A n c D m e q k) (s : Int) (hs : q.num.sign = s) (h0 : 0 < k) (hk : k ≤ 40000000) : Calls Try.prog 43 #[.agg #[.bool b, .slice A n c, .slice D m e]] w (RetV w (.int .i64 s)) := by subst hs; exact f_sign w b A n c D m e q k h h0 hk
set_option maxRecDepth 100000 in
set_option maxHeartbeats 2000000 in
/-- turn.Check -/
theorem t_check_false (w : World) (b : Bool) (A : Option Addr) (n c : Nat) (D : Option Addr) (m e : Nat) (t : TN) (k : Nat) (h : TK w b A n c D m e false t k) (h0 : 0 < k) (hk : k ≤ 1000000) :
    Calls Try.prog 28 #[.agg #[.bool b, .slice A n c, .slice D m e, .bool false]] w (RetV w .nilIface) := by
  obtain ⟨⟨a, ha, hq, ho⟩, hx, hok⟩ := id h
  have HO := Lib.hid ho
  have HQ := Lib.hid (show (t.t).num.sign = 0 ∨ t.h = false by cases hh : t.h; exact .inr rfl; exact .inl (by rw [hok hh]; rfl))
  have HX := Lib.hid hx
  clear hq ho hx hok
  go_enter Try.func28, Try.ntmps28
  go_wp2_with fail
  (with_reducible refine (f_valid_e _ b A n c D m e a k true ?_ ?_ ?_).mono ?_); (exact ha.belw ((Below.refl _ _).alloc (Nat.le_refl _) _)); (omega); (exact HO.out); rintro e w1 ⟨rfl, hb1⟩
  have q1 : Below w.heap.size w w1 := ((Below.refl _ _).alloc (Nat.le_refl _) _).trans (hb1.mono (by simp))
  replace h := h.belw q1
  replace ha := ha.belw q1
  have x1_0 : Blk w1 (w.heap.size) 26 #[.bool b, .slice A n c, .slice D m e, .bool false] := (blkAt _ _ _ (by simp)).below hb1 (by simp)
  have bw1 : Below w.heap.size w w1 := (brefl w).trans (q1.mono (brefl w).size)
  have lw1 : w.heap.size + 1 ≤ w1.heap.size := by have := hb1.size; simp at this; omega
  clear hb1 q1
  have cx1_0_0 : w1.cell? ⟨w.heap.size, 0, none⟩ = some (.bool b) := x1_0.cell 0
  have cx1_0_1 : w1.cell? ⟨w.heap.size, 1, none⟩ = some (.slice A n c) := x1_0.cell 1
  have cx1_0_2 : w1.cell? ⟨w.heap.size, 2, none⟩ = some (.slice D m e) := x1_0.cell 2
  have cx1_0_3 : w1.cell? ⟨w.heap.size, 3, none⟩ = some (.bool false) := x1_0.cell 3
  have lx1_0_0 : w.heap.size < w1.heap.size := by have := x1_0.lt; omega
  have lx1_0_1 : w.heap.size < w1.heap.size + 1 := by have := x1_0.lt; omega
  have lx1_0_2 : w.heap.size < w1.heap.size + 2 := by have := x1_0.lt; omega
  have lx1_0_3 : w.heap.size < w1.heap.size + 3 := by have := x1_0.lt; omega
  go_wp2_with fail
  go_ret
  exact ⟨rfl, bw1⟩
set_option maxRecDepth 100000 in
set_option maxHeartbeats 2000000 in
/-- turn.Check -/
theorem t_check_true (w : World) (b : Bool) (A : Option Addr) (n c : Nat) (D : Option Addr) (m e : Nat) (t : TN) (k : Nat) (h : TK w b A n c D m e true t k) (h0 : 0 < k) (hk : k ≤ 1000000) :
    Calls Try.prog 28 #[.agg #[.bool b, .slice A n c, .slice D m e, .bool true]] w (RetV w .nilIface) := by
  obtain ⟨⟨a, ha, hq, ho⟩, hx, hok⟩ := id h
  have HO := Lib.hid ho
  have HQ := Lib.hid (show (t.t).num.sign = 0 ∨ t.h = false by cases hh : t.h; exact .inr rfl; exact .inl (by rw [hok hh]; rfl))
  have HX := Lib.hid hx
  clear hq ho hx hok
  go_enter Try.func28, Try.ntmps28
  go_wp2_with fail
  (with_reducible refine (f_valid_e _ b A n c D m e a k true ?_ ?_ ?_).mono ?_); (exact ha.belw ((Below.refl _ _).alloc (Nat.le_refl _) _)); (omega); (exact HO.out); rintro e w1 ⟨rfl, hb1⟩
  have q1 : Below w.heap.size w w1 := ((Below.refl _ _).alloc (Nat.le_refl _) _).trans (hb1.mono (by simp))
  replace h := h.belw q1
  replace ha := ha.belw q1
  have x1_0 : Blk w1 (w.heap.size) 26 #[.bool b, .slice A n c, .slice D m e, .bool true] := (blkAt _ _ _ (by simp)).below hb1 (by simp)
  have bw1 : Below w.heap.size w w1 := (brefl w).trans (q1.mono (brefl w).size)
  have lw1 : w.heap.size + 1 ≤ w1.heap.size := by have := hb1.size; simp at this; omega
  clear hb1 q1
  have cx1_0_0 : w1.cell? ⟨w.heap.size, 0, none⟩ = some (.bool b) := x1_0.cell 0
  have cx1_0_1 : w1.cell? ⟨w.heap.size, 1, none⟩ = some (.slice A n c) := x1_0.cell 1
  have cx1_0_2 : w1.cell? ⟨w.heap.size, 2, none⟩ = some (.slice D m e) := x1_0.cell 2
  have cx1_0_3 : w1.cell? ⟨w.heap.size, 3, none⟩ = some (.bool true) := x1_0.cell 3
  have lx1_0_0 : w.heap.size < w1.heap.size := by have := x1_0.lt; omega
  have lx1_0_1 : w.heap.size < w1.heap.size + 1 := by have := x1_0.lt; omega
  have lx1_0_2 : w.heap.size < w1.heap.size + 2 := by have := x1_0.lt; omega
  have lx1_0_3 : w.heap.size < w1.heap.size + 3 := by have := x1_0.lt; omega
  go_wp2_with fail
  (with_reducible refine (f_sign_e _ b A n c D m e ((t).t) (k) ?_ 0 ?_ ?_ ?_).mono ?_); (exact h.qz); (exact HQ.out.resolve_right (by rw [← HX.out]; decide)); (omega); (omega); rintro e w2 ⟨rfl, hb2⟩
  clear cx1_0_0 cx1_0_1 cx1_0_2 cx1_0_3 lx1_0_0 lx1_0_1 lx1_0_2 lx1_0_3
  have q2 : Below w1.heap.size w1 w2 := hb2
  replace h := h.belw q2
  replace ha := ha.belw q2
  replace x1_0 : Blk w2 (w.heap.size) 26 #[.bool b, .slice A n c, .slice D m e, .bool true] := x1_0.below q2 x1_0.lt
  have bw2 : Below w.heap.size w w2 := bw1.trans (q2.mono bw1.size)
  have lw2 : w1.heap.size ≤ w2.heap.size := q2.size
  clear hb2 q2 bw1
  go_wp2_with fail
  go_ret
  exact ⟨rfl, bw2⟩
theorem t_check (w : World) (b : Bool) (A : Option Addr) (n c : Nat) (D : Option Addr) (m e : Nat) (x : Bool) (t : TN) (k : Nat) (h : TK w b A n c D m e x t k) (h0 : 0 < k) (hk : k ≤ 1000000) : Calls Try.prog 28 #[.agg #[.bool b, .slice A n c, .slice D m e, .bool x]] w (RetV w .nilIface) := by
  cases x
  · exact t_check_false w b A n c D m e t k h h0 hk
  · exact t_check_true w b A n c D m e t k h h0 hk
set_option maxRecDepth 100000 in
set_option maxHeartbeats 4000000 in
/-- turn.direction -/
theorem t_direction_false (w : World) (b : Bool) (A : Option Addr) (n c : Nat) (D : Option Addr) (m e : Nat) (t : TN) (k : Nat) (h : TK w b A n c D m e false t k) (h0 : 0 < k) (hk : k ≤ 1000000) :
    Calls Try.prog 29 #[.agg #[.bool b, .slice A n c, .slice D m e, .bool false]] w (RetQQ w (tcos t) (tsin t) (4 * k + 4)) := by
  have HNE := Lib.hid (show ((1 : Int) : Rat) + t.t * t.t ≠ 0 from one_add_sq t.t)
  have HC := Lib.hid (show (((1 : Int) : Rat) - t.t * t.t) / (((1 : Int) : Rat) + t.t * t.t) = tcos t by unfold tcos; rw [if_neg (by rw [← h.2.1]; decide)]; rfl)
  have HS := Lib.hid (show (t.t + t.t) / (((1 : Int) : Rat) + t.t * t.t) = tsin t by unfold tsin; rw [if_neg (by rw [← h.2.1]; decide)]; rfl)
  go_enter Try.func29, Try.ntmps29
  go_wp2_with fail
  have p1 : Kp w (((w.alloc (.cells #[.bool b, .slice A n c, .slice D m e, .bool false] 26)).alloc (.cells #[.bool false, .slice none 0 0, .slice none 0 0] 24)).alloc (.cells #[.bool false, .slice none 0 0, .slice none 0 0] 24)) := ((((Kp.refl w).alloc (.cells #[.bool b, .slice A n c, .slice D m e, .bool false] 26)).alloc (.cells #[.bool false, .slice none 0 0, .slice none 0 0] 24)).alloc (.cells #[.bool false, .slice none 0 0, .slice none 0 0] 24))
  have bw1 : Below w.heap.size w (((w.alloc (.cells #[.bool b, .slice A n c, .slice D m e, .bool false] 26)).alloc (.cells #[.bool false, .slice none 0 0, .slice none 0 0] 24)).alloc (.cells #[.bool false, .slice none 0 0, .slice none 0 0] 24)) := ((((brefl w).alloc (by first | omega | (simp <;> omega)) (.cells #[.bool b, .slice A n c, .slice D m e, .bool false] 26)).alloc (by first | omega | (simp <;> omega)) (.cells #[.bool false, .slice none 0 0, .slice none 0 0] 24)).alloc (by first | omega | (simp <;> omega)) (.cells #[.bool false, .slice none 0 0, .slice none 0 0] 24))
  have x1_0 : Blk (((w.alloc (.cells #[.bool b, .slice A n c, .slice D m e, .bool false] 26)).alloc (.cells #[.bool false, .slice none 0 0, .slice none 0 0] 24)).alloc (.cells #[.bool false, .slice none 0 0, .slice none 0 0] 24)) (w.heap.size) 26 #[.bool b, .slice A n c, .slice D m e, .bool false] := (((blkAt _ _ _ (by simp)).alloc (.cells #[.bool false, .slice none 0 0, .slice none 0 0] 24)).alloc (.cells #[.bool false, .slice none 0 0, .slice none 0 0] 24))
  have x1_1 : Blk (((w.alloc (.cells #[.bool b, .slice A n c, .slice D m e, .bool false] 26)).alloc (.cells #[.bool false, .slice none 0 0, .slice none 0 0] 24)).alloc (.cells #[.bool false, .slice none 0 0, .slice none 0 0] 24)) (w.heap.size + 1) 24 #[.bool false, .slice none 0 0, .slice none 0 0] := ((blkAt _ _ _ (by simp)).alloc (.cells #[.bool false, .slice none 0 0, .slice none 0 0] 24))
  have x1_2 : Blk (((w.alloc (.cells #[.bool b, .slice A n c, .slice D m e, .bool false] 26)).alloc (.cells #[.bool false, .slice none 0 0, .slice none 0 0] 24)).alloc (.cells #[.bool false, .slice none 0 0, .slice none 0 0] 24)) (w.heap.size + 1 + 1) 24 #[.bool false, .slice none 0 0, .slice none 0 0] := (blkAt _ _ _ (by simp))
  have lw1 : w.heap.size + 3 ≤ (((w.alloc (.cells #[.bool b, .slice A n c, .slice D m e, .bool false] 26)).alloc (.cells #[.bool false, .slice none 0 0, .slice none 0 0] 24)).alloc (.cells #[.bool false, .slice none 0 0, .slice none 0 0] 24)).heap.size := by simp
  generalize hE1 : (((w.alloc (.cells #[.bool b, .slice A n c, .slice D m e, .bool false] 26)).alloc (.cells #[.bool false, .slice none 0 0, .slice none 0 0] 24)).alloc (.cells #[.bool false, .slice none 0 0, .slice none 0 0] 24)) = w1 at p1 bw1 lw1 x1_0 x1_1 x1_2 ⊢
  clear hE1
  replace h := h.keep p1
  have cx1_0_0 : w1.cell? ⟨w.heap.size, 0, none⟩ = some (.bool b) := x1_0.cell 0
  have cx1_0_1 : w1.cell? ⟨w.heap.size, 1, none⟩ = some (.slice A n c) := x1_0.cell 1
  have cx1_0_2 : w1.cell? ⟨w.heap.size, 2, none⟩ = some (.slice D m e) := x1_0.cell 2
  have cx1_0_3 : w1.cell? ⟨w.heap.size, 3, none⟩ = some (.bool false) := x1_0.cell 3
  have lx1_0_0 : w.heap.size < w1.heap.size := by have := x1_0.lt; omega
  have lx1_0_1 : w.heap.size < w1.heap.size + 1 := by have := x1_0.lt; omega
  have lx1_0_2 : w.heap.size < w1.heap.size + 2 := by have := x1_0.lt; omega
  have lx1_0_3 : w.heap.size < w1.heap.size + 3 := by have := x1_0.lt; omega
  refine wp_region_lin (B := w.heap.size) (fr := fun xf => ⟨#[.agg #[.bool b, .slice A n c, .slice D m e, .bool false], .pointer (some ⟨w.heap.size, 0, none⟩), .pointer (some ⟨w.heap.size + 1, 0, none⟩), .pointer (some ⟨w.heap.size + 1 + 1, 0, none⟩), xf 6, xf 7, undef, .pointer (some ⟨w.heap.size, 3, none⟩), .bool false, undef, undef, xf 0, xf 1, xf 2, xf 3, xf 4, xf 5, undef, undef, undef, undef, undef, undef, undef, undef, undef, undef, undef, undef, undef, undef, undef], []⟩) (R := fun i => List.getD [VQ (((1 : Int) : Rat)) (1), PEq (.pointer (some ⟨w.heap.size, 0, none⟩)), PEq (.agg #[.bool b, .slice A n c, .slice D m e]), PEq (.pointer (some ⟨w.heap.size, 0, none⟩)), PEq (.agg #[.bool b, .slice A n c, .slice D m e]), VQ (((t).t) * ((t).t)) ((k) + (k)), PAny, PAny, PAny, PAny] i (fun _ _ => True)) (es := [⟨6, 8, 24, #[.bool false, .slice none 0 0, .slice none 0 0], CQ (((1 : Int) : Rat)) (1)⟩, ⟨7, 9, 24, #[.bool false, .slice none 0 0, .slice none 0 0], CQ (((t).t) * ((t).t)) ((k) + (k))⟩]) (ow := [⟨w.heap.size, 10, 0, 26, #[.bool b, .slice A n c, .slice D m e, .bool false], CAny⟩, ⟨w.heap.size + 1, 10, 0, 24, #[.bool false, .slice none 0 0, .slice none 0 0], CAny⟩, ⟨w.heap.size + 1 + 1, 10, 0, 24, #[.bool false, .slice none 0 0, .slice none 0 0], CAny⟩]) (x0 := fun _ => undef) (by kernel_rfl)
    (each_of ⟨fun _ _ => rfl, fun _ _ => rfl, fun _ _ => rfl, fun _ _ => rfl, fun _ _ => rfl, fun _ _ => rfl, fun _ _ => rfl, fun _ _ => rfl, fun _ _ => rfl, fun _ _ => rfl, trivial⟩) (each_of (acyc_from _ 0 (by kernel_rfl))) (AllStab.get _ ⟨stQ _ _, stEq _, stEq _, stEq _, stEq _, stQ _ _, stAny, stAny, stAny, stAny, trivial⟩)
    (List.forall_mem_cons.2 ⟨scQ _ _, List.forall_mem_cons.2 ⟨scQ _ _, fun _ h => nomatch h⟩⟩) (List.forall_mem_cons.2 ⟨scAny, List.forall_mem_cons.2 ⟨scAny, List.forall_mem_cons.2 ⟨scAny, fun _ h => nomatch h⟩⟩⟩) (List.forall_mem_cons.2 ⟨⟨by simp, by simp⟩, List.forall_mem_cons.2 ⟨⟨by simp, by simp⟩, fun _ h => nomatch h⟩⟩) bw1.size
    (List.forall_mem_cons.2 ⟨⟨x1_0, by show w.heap.size ≤ w.heap.size; omega⟩, List.forall_mem_cons.2 ⟨⟨x1_1, by show w.heap.size ≤ w.heap.size + 1; omega⟩, List.forall_mem_cons.2 ⟨⟨x1_2, by show w.heap.size ≤ w.heap.size + 1 + 1; omega⟩, fun _ h => nomatch h⟩⟩⟩) (ownDist (by simp <;> omega))
    (each_of ⟨?_, ?_, ?_, ?_, ?_, ?_, ?_, ?_, ?_, ?_, trivial⟩) ?_
  · exact .inl ⟨by simp, by simp, fun xf wq hk hbl hd K hK => by
      (try dsimp only)
      go_simp
      go_at_call 19
      (with_reducible refine (f_of _ (1) ?_ ?_).mono ?_); (first | omega | decide | assumption); (first | omega | decide | assumption); rintro e wr ⟨b3, A3, n3, c3, A'3, n'3, c'3, rfl, h3, hbr⟩
      exact hK.out _ _ ⟨b3, A3, n3, c3, A'3, n'3, c'3, rfl, h3⟩ hbr⟩
  · exact .inl ⟨by simp, by simp, fun xf wq hk hbl hd K hK => by
      (try dsimp only)
      go_simp
      exact hK.out (.pointer (some ⟨w.heap.size, 0, none⟩)) _ rfl (brefl _)⟩
  · exact .inl ⟨by simp, by simp, fun xf wq hk hbl hd K hK => by
      have d1 : xf 1 = .pointer (some ⟨w.heap.size, 0, none⟩) := hd ⟨1, .data⟩ (by simp) rfl
      have y : Blk wq (w.heap.size) 26 #[.bool b, .slice A n c, .slice D m e, .bool false] := hbl _ (List.Mem.head _) (by simp [Region.binds])
      have c0 : wq.cell? ⟨w.heap.size, 0, none⟩ = some (.bool b) := y.cell 0
      have c1 : wq.cell? ⟨w.heap.size, 1, none⟩ = some (.slice A n c) := y.cell 1
      have c2 : wq.cell? ⟨w.heap.size, 2, none⟩ = some (.slice D m e) := y.cell 2
      have c3 : wq.cell? ⟨w.heap.size, 3, none⟩ = some (.bool false) := y.cell 3
      (try dsimp only); (try simp only [d1])
      go_simp
      have hz := hK.out (.agg #[.bool b, .slice A n c, .slice D m e]) _ rfl (brefl _)
      simp only [d1] at hz
      exact hz⟩
  · exact .inl ⟨by simp, by simp, fun xf wq hk hbl hd K hK => by
      (try dsimp only)
      go_simp
      exact hK.out (.pointer (some ⟨w.heap.size, 0, none⟩)) _ rfl (brefl _)⟩
  · exact .inl ⟨by simp, by simp, fun xf wq hk hbl hd K hK => by
      have d3 : xf 3 = .pointer (some ⟨w.heap.size, 0, none⟩) := hd ⟨3, .data⟩ (by simp) rfl
      have y : Blk wq (w.heap.size) 26 #[.bool b, .slice A n c, .slice D m e, .bool false] := hbl _ (List.Mem.head _) (by simp [Region.binds])
      have c0 : wq.cell? ⟨w.heap.size, 0, none⟩ = some (.bool b) := y.cell 0
      have c1 : wq.cell? ⟨w.heap.size, 1, none⟩ = some (.slice A n c) := y.cell 1
      have c2 : wq.cell? ⟨w.heap.size, 2, none⟩ = some (.slice D m e) := y.cell 2
      have c3 : wq.cell? ⟨w.heap.size, 3, none⟩ = some (.bool false) := y.cell 3
      (try dsimp only); (try simp only [d3])
      go_simp
      have hz := hK.out (.agg #[.bool b, .slice A n c, .slice D m e]) _ rfl (brefl _)
      simp only [d3] at hz
      exact hz⟩
  · exact .inl ⟨by simp, by simp, fun xf wq hk hbl hd K hK => by
      have d2 : xf 2 = .agg #[.bool b, .slice A n c, .slice D m e] := hd ⟨2, .data⟩ (by simp) rfl
      have d4 : xf 4 = .agg #[.bool b, .slice A n c, .slice D m e] := hd ⟨4, .data⟩ (by simp) rfl
      (try dsimp only); (try simp only [d2, d4])
      go_simp
      go_at_call 12
      (with_reducible refine (f_mul _ b A n c D m e ((t).t) (k) ?_ b A n c D m e ((t).t) (k) ?_ ?_ ?_ ?_ ?_).mono ?_); (exact (h.keep hk).qz); (exact (h.keep hk).qz); (first | omega | decide | assumption); (first | omega | decide | assumption); (first | omega | decide | assumption); (first | omega | decide | assumption); rintro e wr ⟨b4, A4, n4, c4, A'4, n'4, c'4, rfl, h4, hbr⟩
      have hz := hK.out _ _ ⟨b4, A4, n4, c4, A'4, n'4, c'4, rfl, h4⟩ hbr
      simp only [d2, d4] at hz
      exact hz⟩
  · exact .inr (.inl ⟨⟨6, 8, 24, #[.bool false, .slice none 0 0, .slice none 0 0], CQ (((1 : Int) : Rat)) (1)⟩, by simp, rfl, by simp, by simp, by simp, fun _ _ => True.intro, fun xf wq K hK => by
      (try dsimp only)
      go_simp
      exact hK.out⟩)
  · exact .inr (.inl ⟨⟨7, 9, 24, #[.bool false, .slice none 0 0, .slice none 0 0], CQ (((t).t) * ((t).t)) ((k) + (k))⟩, by simp, rfl, by simp, by simp, by simp, fun _ _ => True.intro, fun xf wq K hK => by
      (try dsimp only)
      go_simp
      exact hK.out⟩)
  · exact .inr (.inr (.inl ⟨⟨6, 8, 24, #[.bool false, .slice none 0 0, .slice none 0 0], CQ (((1 : Int) : Rat)) (1)⟩, by simp, rfl, by simp, by simp, by simp, by simp, (show KT 24 = false by decide), fun _ _ => True.intro, ⟨⟨6, .data⟩, by simp, rfl, rfl⟩, fun xf wq g hx hblk hd => by
      obtain ⟨b3, A3, n3, c3, A'3, n'3, c'3, d0, h3⟩ : VQ (((1 : Int) : Rat)) (1) (xf 0) wq := hd ⟨0, .data⟩ (by simp) rfl
      dsimp only at hx hblk
      refine ⟨[.bool b3, .slice A3 n3 c3, .slice A'3 n'3 c'3], fun w' hk => ⟨b3, A3, n3, c3, A'3, n'3, c'3, rfl, h3.keep hk⟩, fun K hK => ?_⟩
      have hc0 : wq.cell? ⟨g, 0, none⟩ = some (.bool false) := hblk.cell 0
      have hc1 : wq.cell? ⟨g, 1, none⟩ = some (.slice none 0 0) := hblk.cell 1
      have hc2 : wq.cell? ⟨g, 2, none⟩ = some (.slice none 0 0) := hblk.cell 2
      have hf0 : wq.frozen? ⟨g, 0, none⟩ = false := hblk.frozen 0
      have hf1 : wq.frozen? ⟨g, 1, none⟩ = false := hblk.frozen 1
      have hf2 : wq.frozen? ⟨g, 2, none⟩ = false := hblk.frozen 2
      (try dsimp only)
      simp only [hx, d0]
      go_simp
      have hz := hK.out undef
      simp only [hx, d0] at hz
      exact hz⟩))
  · exact .inr (.inr (.inl ⟨⟨7, 9, 24, #[.bool false, .slice none 0 0, .slice none 0 0], CQ (((t).t) * ((t).t)) ((k) + (k))⟩, by simp, rfl, by simp, by simp, by simp, by simp, (show KT 24 = false by decide), fun _ _ => True.intro, ⟨⟨7, .data⟩, by simp, rfl, rfl⟩, fun xf wq g hx hblk hd => by
      obtain ⟨b4, A4, n4, c4, A'4, n'4, c'4, d5, h4⟩ : VQ (((t).t) * ((t).t)) ((k) + (k)) (xf 5) wq := hd ⟨5, .data⟩ (by simp) rfl
      dsimp only at hx hblk
      refine ⟨[.bool b4, .slice A4 n4 c4, .slice A'4 n'4 c'4], fun w' hk => ⟨b4, A4, n4, c4, A'4, n'4, c'4, rfl, h4.keep hk⟩, fun K hK => ?_⟩
      have hc0 : wq.cell? ⟨g, 0, none⟩ = some (.bool false) := hblk.cell 0
      have hc1 : wq.cell? ⟨g, 1, none⟩ = some (.slice none 0 0) := hblk.cell 1
      have hc2 : wq.cell? ⟨g, 2, none⟩ = some (.slice none 0 0) := hblk.cell 2
      have hf0 : wq.frozen? ⟨g, 0, none⟩ = false := hblk.frozen 0
      have hf1 : wq.frozen? ⟨g, 1, none⟩ = false := hblk.frozen 1
      have hf2 : wq.frozen? ⟨g, 2, none⟩ = false := hblk.frozen 2
      (try dsimp only)
      simp only [hx, d5]
      go_simp
      have hz := hK.out undef
      simp only [hx, d5] at hz
      exact hz⟩))
  clear cx1_0_0 cx1_0_1 cx1_0_2 cx1_0_3 lx1_0_0 lx1_0_1 lx1_0_2 lx1_0_3
  intro y2 w2 kq2 hbl2 lw2 how hrr hfl hds
  replace h := h.keep kq2
  obtain ⟨_, z2_0, ez, _⟩ := how _ (List.Mem.head _)
  obtain rfl := ez (by simp)
  dsimp only at z2_0
  obtain ⟨_, z2_1, ez, _⟩ := how _ (List.Mem.tail _ (List.Mem.head _))
  obtain rfl := ez (by simp)
  dsimp only at z2_1
  obtain ⟨_, z2_2, ez, _⟩ := how _ (List.Mem.tail _ (List.Mem.tail _ (List.Mem.head _)))
  obtain rfl := ez (by simp)
  dsimp only at z2_2
  obtain ⟨g4_2, _, eg4_2, Gg4_2, xg4_2, ⟨b3, A3, n3, c3, A'3, n'3, c'3, rfl, h3⟩⟩ := hfl _ (List.Mem.head _)
  dsimp only at eg4_2 Gg4_2 xg4_2
  obtain ⟨g5_2, _, eg5_2, Gg5_2, xg5_2, ⟨b4, A4, n4, c4, A'4, n'4, c'4, rfl, h4⟩⟩ := hfl _ (List.Mem.tail _ (List.Mem.head _))
  dsimp only at eg5_2 Gg5_2 xg5_2
  have lgg4_2 : g4_2 < w2.heap.size := xg4_2.lt
  have lgg5_2 : g5_2 < w2.heap.size := xg5_2.lt
  have ngg4_2g5_2 : g4_2 ≠ g5_2 := fun e => hds _ (List.Mem.head _) _ (List.Mem.tail _ (List.Mem.head _)) (by simp) (by dsimp only; rw [eg4_2, eg5_2, e])
  (try dsimp only)
  simp only [eg4_2, eg5_2]
  clear hrr hfl how hds eg4_2 eg5_2
  clear x1_0 x1_1 x1_2
  have bw2 : Below w.heap.size w w2 := bw1.trans hbl2
  clear bw1
  have cxg4_2_0 : w2.cell? ⟨g4_2, 0, none⟩ = some (.bool b3) := xg4_2.cell 0
  have cxg4_2_1 : w2.cell? ⟨g4_2, 1, none⟩ = some (.slice A3 n3 c3) := xg4_2.cell 1
  have cxg4_2_2 : w2.cell? ⟨g4_2, 2, none⟩ = some (.slice A'3 n'3 c'3) := xg4_2.cell 2
  have lxg4_2_0 : g4_2 < w2.heap.size := by have := xg4_2.lt; omega
  have lxg4_2_1 : g4_2 < w2.heap.size + 1 := by have := xg4_2.lt; omega
  have lxg4_2_2 : g4_2 < w2.heap.size + 2 := by have := xg4_2.lt; omega
  have lxg4_2_3 : g4_2 < w2.heap.size + 3 := by have := xg4_2.lt; omega
  have cxg5_2_0 : w2.cell? ⟨g5_2, 0, none⟩ = some (.bool b4) := xg5_2.cell 0
  have cxg5_2_1 : w2.cell? ⟨g5_2, 1, none⟩ = some (.slice A4 n4 c4) := xg5_2.cell 1
  have cxg5_2_2 : w2.cell? ⟨g5_2, 2, none⟩ = some (.slice A'4 n'4 c'4) := xg5_2.cell 2
  have lxg5_2_0 : g5_2 < w2.heap.size := by have := xg5_2.lt; omega
  have lxg5_2_1 : g5_2 < w2.heap.size + 1 := by have := xg5_2.lt; omega
  have lxg5_2_2 : g5_2 < w2.heap.size + 2 := by have := xg5_2.lt; omega
  have lxg5_2_3 : g5_2 < w2.heap.size + 3 := by have := xg5_2.lt; omega
  go_wp2_with fail
  (with_reducible refine (f_add _ b3 A3 n3 c3 A'3 n'3 c'3 (((1 : Int) : Rat)) (1) ?_ b4 A4 n4 c4 A'4 n'4 c'4 (((t).t) * ((t).t)) ((k) + (k)) ?_ ?_ ?_ ?_ ?_).mono ?_); (exact h3.qz); (exact h4.qz); (first | omega | decide | assumption); (first | omega | decide | assumption); (first | omega | decide | assumption); (first | omega | decide | assumption); rintro e w6 ⟨b6, A6, n6, c6, A'6, n'6, c'6, rfl, h6, hb6⟩
  clear cxg4_2_0 cxg4_2_1 cxg4_2_2 lxg4_2_0 lxg4_2_1 lxg4_2_2 lxg4_2_3 cxg5_2_0 cxg5_2_1 cxg5_2_2 lxg5_2_0 lxg5_2_1 lxg5_2_2 lxg5_2_3
  have q6 : Below w2.heap.size w2 w6 := hb6
  replace h := h.belw q6
  replace h3 := h3.belw q6
  replace h4 := h4.belw q6
  replace z2_0 : Blk w6 (w.heap.size) 26 #[.bool b, .slice A n c, .slice D m e, .bool false] := z2_0.below q6 z2_0.lt
  replace z2_1 : Blk w6 (w.heap.size + 1) 24 #[.bool false, .slice none 0 0, .slice none 0 0] := z2_1.below q6 z2_1.lt
  replace z2_2 : Blk w6 (w.heap.size + 1 + 1) 24 #[.bool false, .slice none 0 0, .slice none 0 0] := z2_2.below q6 z2_2.lt
  replace xg4_2 : Blk w6 (g4_2) 24 #[.bool b3, .slice A3 n3 c3, .slice A'3 n'3 c'3] := xg4_2.below q6 xg4_2.lt
  replace xg5_2 : Blk w6 (g5_2) 24 #[.bool b4, .slice A4 n4 c4, .slice A'4 n'4 c'4] := xg5_2.below q6 xg5_2.lt
  have bw6 : Below w.heap.size w w6 := bw2.trans (q6.mono bw2.size)
  have lw6 : w2.heap.size ≤ w6.heap.size := q6.size
  clear hb6 q6 bw2
  go_wp2_with fail
  have p7 : Kp w6 (w6.alloc (.cells #[.bool b6, .slice A6 n6 c6, .slice A'6 n'6 c'6] 24)) := ((Kp.refl w6).alloc (.cells #[.bool b6, .slice A6 n6 c6, .slice A'6 n'6 c'6] 24))
  have bw7 : Below w.heap.size w (w6.alloc (.cells #[.bool b6, .slice A6 n6 c6, .slice A'6 n'6 c'6] 24)) := (bw6.alloc (by first | omega | (simp <;> omega)) (.cells #[.bool b6, .slice A6 n6 c6, .slice A'6 n'6 c'6] 24))
  have x7_0 : Blk (w6.alloc (.cells #[.bool b6, .slice A6 n6 c6, .slice A'6 n'6 c'6] 24)) (w6.heap.size) 24 #[.bool b6, .slice A6 n6 c6, .slice A'6 n'6 c'6] := (blkAt _ _ _ (by simp))
  replace z2_0 : Blk (w6.alloc (.cells #[.bool b6, .slice A6 n6 c6, .slice A'6 n'6 c'6] 24)) (w.heap.size) 26 #[.bool b, .slice A n c, .slice D m e, .bool false] := (z2_0.alloc (.cells #[.bool b6, .slice A6 n6 c6, .slice A'6 n'6 c'6] 24))
  replace z2_1 : Blk (w6.alloc (.cells #[.bool b6, .slice A6 n6 c6, .slice A'6 n'6 c'6] 24)) (w.heap.size + 1) 24 #[.bool false, .slice none 0 0, .slice none 0 0] := (z2_1.alloc (.cells #[.bool b6, .slice A6 n6 c6, .slice A'6 n'6 c'6] 24))
  replace z2_2 : Blk (w6.alloc (.cells #[.bool b6, .slice A6 n6 c6, .slice A'6 n'6 c'6] 24)) (w.heap.size + 1 + 1) 24 #[.bool false, .slice none 0 0, .slice none 0 0] := (z2_2.alloc (.cells #[.bool b6, .slice A6 n6 c6, .slice A'6 n'6 c'6] 24))
  replace xg4_2 : Blk (w6.alloc (.cells #[.bool b6, .slice A6 n6 c6, .slice A'6 n'6 c'6] 24)) (g4_2) 24 #[.bool b3, .slice A3 n3 c3, .slice A'3 n'3 c'3] := (xg4_2.alloc (.cells #[.bool b6, .slice A6 n6 c6, .slice A'6 n'6 c'6] 24))
  replace xg5_2 : Blk (w6.alloc (.cells #[.bool b6, .slice A6 n6 c6, .slice A'6 n'6 c'6] 24)) (g5_2) 24 #[.bool b4, .slice A4 n4 c4, .slice A'4 n'4 c'4] := (xg5_2.alloc (.cells #[.bool b6, .slice A6 n6 c6, .slice A'6 n'6 c'6] 24))
  have lw7 : w6.heap.size + 1 ≤ (w6.alloc (.cells #[.bool b6, .slice A6 n6 c6, .slice A'6 n'6 c'6] 24)).heap.size := by simp
  generalize hE7 : (w6.alloc (.cells #[.bool b6, .slice A6 n6 c6, .slice A'6 n'6 c'6] 24)) = w7 at p7 bw7 lw7 x7_0 z2_0 z2_1 z2_2 xg4_2 xg5_2 ⊢
  clear hE7
  replace h := h.keep p7
  replace h3 := h3.keep p7
  replace h4 := h4.keep p7
  replace h6 := h6.keep p7
  clear bw6
  have cz2_0_0 : w7.cell? ⟨w.heap.size, 0, none⟩ = some (.bool b) := z2_0.cell 0
  have cz2_0_1 : w7.cell? ⟨w.heap.size, 1, none⟩ = some (.slice A n c) := z2_0.cell 1
  have cz2_0_2 : w7.cell? ⟨w.heap.size, 2, none⟩ = some (.slice D m e) := z2_0.cell 2
  have cz2_0_3 : w7.cell? ⟨w.heap.size, 3, none⟩ = some (.bool false) := z2_0.cell 3
  have lz2_0_0 : w.heap.size < w7.heap.size := by have := z2_0.lt; omega
  have lz2_0_1 : w.heap.size < w7.heap.size + 1 := by have := z2_0.lt; omega
  have lz2_0_2 : w.heap.size < w7.heap.size + 2 := by have := z2_0.lt; omega
  have lz2_0_3 : w.heap.size < w7.heap.size + 3 := by have := z2_0.lt; omega
  have cxg4_2_0 : w7.cell? ⟨g4_2, 0, none⟩ = some (.bool b3) := xg4_2.cell 0
  have cxg4_2_1 : w7.cell? ⟨g4_2, 1, none⟩ = some (.slice A3 n3 c3) := xg4_2.cell 1
  have cxg4_2_2 : w7.cell? ⟨g4_2, 2, none⟩ = some (.slice A'3 n'3 c'3) := xg4_2.cell 2
  have lxg4_2_0 : g4_2 < w7.heap.size := by have := xg4_2.lt; omega
  have lxg4_2_1 : g4_2 < w7.heap.size + 1 := by have := xg4_2.lt; omega
  have lxg4_2_2 : g4_2 < w7.heap.size + 2 := by have := xg4_2.lt; omega
  have lxg4_2_3 : g4_2 < w7.heap.size + 3 := by have := xg4_2.lt; omega
  have cxg5_2_0 : w7.cell? ⟨g5_2, 0, none⟩ = some (.bool b4) := xg5_2.cell 0
  have cxg5_2_1 : w7.cell? ⟨g5_2, 1, none⟩ = some (.slice A4 n4 c4) := xg5_2.cell 1
  have cxg5_2_2 : w7.cell? ⟨g5_2, 2, none⟩ = some (.slice A'4 n'4 c'4) := xg5_2.cell 2
  have lxg5_2_0 : g5_2 < w7.heap.size := by have := xg5_2.lt; omega
  have lxg5_2_1 : g5_2 < w7.heap.size + 1 := by have := xg5_2.lt; omega
  have lxg5_2_2 : g5_2 < w7.heap.size + 2 := by have := xg5_2.lt; omega
  have lxg5_2_3 : g5_2 < w7.heap.size + 3 := by have := xg5_2.lt; omega
  have cx7_0_0 : w7.cell? ⟨w6.heap.size, 0, none⟩ = some (.bool b6) := x7_0.cell 0
  have cx7_0_1 : w7.cell? ⟨w6.heap.size, 1, none⟩ = some (.slice A6 n6 c6) := x7_0.cell 1
  have cx7_0_2 : w7.cell? ⟨w6.heap.size, 2, none⟩ = some (.slice A'6 n'6 c'6) := x7_0.cell 2
  have lx7_0_0 : w6.heap.size < w7.heap.size := by have := x7_0.lt; omega
  have lx7_0_1 : w6.heap.size < w7.heap.size + 1 := by have := x7_0.lt; omega
  have lx7_0_2 : w6.heap.size < w7.heap.size + 2 := by have := x7_0.lt; omega
  have lx7_0_3 : w6.heap.size < w7.heap.size + 3 := by have := x7_0.lt; omega
  refine wp_region_lin (B := w.heap.size) (fr := fun xf => ⟨#[.agg #[.bool b, .slice A n c, .slice D m e, .bool false], .pointer (some ⟨w.heap.size, 0, none⟩), .pointer (some ⟨w.heap.size + 1, 0, none⟩), .pointer (some ⟨w.heap.size + 1 + 1, 0, none⟩), .pointer (some ⟨g4_2, 0, none⟩), .pointer (some ⟨g5_2, 0, none⟩), .pointer (some ⟨w6.heap.size, 0, none⟩), .pointer (some ⟨w.heap.size, 3, none⟩), .bool false, undef, undef, y2 0, y2 1, y2 2, y2 3, y2 4, y2 5, .agg #[.bool b3, .slice A3 n3 c3, .slice A'3 n'3 c'3], .agg #[.bool b4, .slice A4 n4 c4, .slice A'4 n'4 c'4], .agg #[.bool b6, .slice A6 n6 c6, .slice A'6 n'6 c'6], xf 0, xf 1, xf 2, xf 3, xf 4, xf 5, xf 6, xf 7, xf 8, xf 9, xf 10, xf 11], []⟩) (R := fun i => List.getD [PEq (.agg #[.bool b3, .slice A3 n3 c3, .slice A'3 n'3 c'3]), PEq (.agg #[.bool b4, .slice A4 n4 c4, .slice A'4 n'4 c'4]), VQ ((((1 : Int) : Rat)) - (((t).t) * ((t).t))) ((1) + ((k) + (k)) + 1), PEq (.agg #[.bool b6, .slice A6 n6 c6, .slice A'6 n'6 c'6]), VQ (((((1 : Int) : Rat)) - (((t).t) * ((t).t))) / ((((1 : Int) : Rat)) + (((t).t) * ((t).t)))) (((1) + ((k) + (k)) + 1) + ((1) + ((k) + (k)) + 1)), PEq (.pointer (some ⟨w.heap.size, 0, none⟩)), PEq (.agg #[.bool b, .slice A n c, .slice D m e]), PEq (.pointer (some ⟨w.heap.size, 0, none⟩)), PEq (.agg #[.bool b, .slice A n c, .slice D m e]), VQ (((t).t) + ((t).t)) ((k) + (k) + 1), PEq (.agg #[.bool b6, .slice A6 n6 c6, .slice A'6 n'6 c'6]), VQ ((((t).t) + ((t).t)) / ((((1 : Int) : Rat)) + (((t).t) * ((t).t)))) (((k) + (k) + 1) + ((1) + ((k) + (k)) + 1)), PAny, PAny] i (fun _ _ => True)) (es := []) (ow := [⟨w.heap.size, 14, 0, 26, #[.bool b, .slice A n c, .slice D m e, .bool false], CAny⟩, ⟨w.heap.size + 1, 12, 0, 24, #[.bool false, .slice none 0 0, .slice none 0 0], CQ (((((1 : Int) : Rat)) - (((t).t) * ((t).t))) / ((((1 : Int) : Rat)) + (((t).t) * ((t).t)))) (((1) + ((k) + (k)) + 1) + ((1) + ((k) + (k)) + 1))⟩, ⟨w.heap.size + 1 + 1, 13, 0, 24, #[.bool false, .slice none 0 0, .slice none 0 0], CQ ((((t).t) + ((t).t)) / ((((1 : Int) : Rat)) + (((t).t) * ((t).t)))) (((k) + (k) + 1) + ((1) + ((k) + (k)) + 1))⟩, ⟨g4_2, 14, 0, 24, #[.bool b3, .slice A3 n3 c3, .slice A'3 n'3 c'3], CAny⟩, ⟨g5_2, 14, 0, 24, #[.bool b4, .slice A4 n4 c4, .slice A'4 n'4 c'4], CAny⟩, ⟨w6.heap.size, 14, 0, 24, #[.bool b6, .slice A6 n6 c6, .slice A'6 n'6 c'6], CAny⟩]) (x0 := fun _ => undef) (by kernel_rfl)
    (each_of ⟨fun _ _ => rfl, fun _ _ => rfl, fun _ _ => rfl, fun _ _ => rfl, fun _ _ => rfl, fun _ _ => rfl, fun _ _ => rfl, fun _ _ => rfl, fun _ _ => rfl, fun _ _ => rfl, fun _ _ => rfl, fun _ _ => rfl, fun _ _ => rfl, fun _ _ => rfl, trivial⟩) (each_of (acyc_from _ 0 (by kernel_rfl))) (AllStab.get _ ⟨stEq _, stEq _, stQ _ _, stEq _, stQ _ _, stEq _, stEq _, stEq _, stEq _, stQ _ _, stEq _, stQ _ _, stAny, stAny, trivial⟩)
    (fun _ h => nomatch h) (List.forall_mem_cons.2 ⟨scAny, List.forall_mem_cons.2 ⟨scQ _ _, List.forall_mem_cons.2 ⟨scQ _ _, List.forall_mem_cons.2 ⟨scAny, List.forall_mem_cons.2 ⟨scAny, List.forall_mem_cons.2 ⟨scAny, fun _ h => nomatch h⟩⟩⟩⟩⟩⟩) (fun _ h => nomatch h) bw7.size
    (List.forall_mem_cons.2 ⟨⟨z2_0, by show w.heap.size ≤ w.heap.size; omega⟩, List.forall_mem_cons.2 ⟨⟨z2_1, by show w.heap.size ≤ w.heap.size + 1; omega⟩, List.forall_mem_cons.2 ⟨⟨z2_2, by show w.heap.size ≤ w.heap.size + 1 + 1; omega⟩, List.forall_mem_cons.2 ⟨⟨xg4_2, by show w.heap.size ≤ g4_2; omega⟩, List.forall_mem_cons.2 ⟨⟨xg5_2, by show w.heap.size ≤ g5_2; omega⟩, List.forall_mem_cons.2 ⟨⟨x7_0, by show w.heap.size ≤ w6.heap.size; omega⟩, fun _ h => nomatch h⟩⟩⟩⟩⟩⟩) (ownDist (by simp <;> omega))
    (each_of ⟨?_, ?_, ?_, ?_, ?_, ?_, ?_, ?_, ?_, ?_, ?_, ?_, ?_, ?_, trivial⟩) ?_
  · exact .inl ⟨by simp, by simp, fun xf wq hk hbl hd K hK => by
      have y : Blk wq (g4_2) 24 #[.bool b3, .slice A3 n3 c3, .slice A'3 n'3 c'3] := hbl _ (List.Mem.tail _ (List.Mem.tail _ (List.Mem.tail _ (List.Mem.head _)))) (by simp [Region.binds])
      have c0 : wq.cell? ⟨g4_2, 0, none⟩ = some (.bool b3) := y.cell 0
      have c1 : wq.cell? ⟨g4_2, 1, none⟩ = some (.slice A3 n3 c3) := y.cell 1
      have c2 : wq.cell? ⟨g4_2, 2, none⟩ = some (.slice A'3 n'3 c'3) := y.cell 2
      (try dsimp only)
      go_simp
      exact hK.out (.agg #[.bool b3, .slice A3 n3 c3, .slice A'3 n'3 c'3]) _ rfl (brefl _)⟩
  · exact .inl ⟨by simp, by simp, fun xf wq hk hbl hd K hK => by
      have y : Blk wq (g5_2) 24 #[.bool b4, .slice A4 n4 c4, .slice A'4 n'4 c'4] := hbl _ (List.Mem.tail _ (List.Mem.tail _ (List.Mem.tail _ (List.Mem.tail _ (List.Mem.head _))))) (by simp [Region.binds])
      have c0 : wq.cell? ⟨g5_2, 0, none⟩ = some (.bool b4) := y.cell 0
      have c1 : wq.cell? ⟨g5_2, 1, none⟩ = some (.slice A4 n4 c4) := y.cell 1
      have c2 : wq.cell? ⟨g5_2, 2, none⟩ = some (.slice A'4 n'4 c'4) := y.cell 2
      (try dsimp only)
      go_simp
      exact hK.out (.agg #[.bool b4, .slice A4 n4 c4, .slice A'4 n'4 c'4]) _ rfl (brefl _)⟩
  · exact .inl ⟨by simp, by simp, fun xf wq hk hbl hd K hK => by
      have d0 : xf 0 = .agg #[.bool b3, .slice A3 n3 c3, .slice A'3 n'3 c'3] := hd ⟨0, .data⟩ (by simp) rfl
      have d1 : xf 1 = .agg #[.bool b4, .slice A4 n4 c4, .slice A'4 n'4 c'4] := hd ⟨1, .data⟩ (by simp) rfl
      (try dsimp only); (try simp only [d0, d1])
      go_simp
      go_at_call 30
      (with_reducible refine (f_sub _ b3 A3 n3 c3 A'3 n'3 c'3 (((1 : Int) : Rat)) (1) ?_ b4 A4 n4 c4 A'4 n'4 c'4 (((t).t) * ((t).t)) ((k) + (k)) ?_ ?_ ?_ ?_ ?_).mono ?_); (exact (h3.keep hk).qz); (exact (h4.keep hk).qz); (first | omega | decide | assumption); (first | omega | decide | assumption); (first | omega | decide | assumption); (first | omega | decide | assumption); rintro e wr ⟨b9, A9, n9, c9, A'9, n'9, c'9, rfl, h9, hbr⟩
      have hz := hK.out _ _ ⟨b9, A9, n9, c9, A'9, n'9, c'9, rfl, h9⟩ hbr
      simp only [d0, d1] at hz
      exact hz⟩
  · exact .inl ⟨by simp, by simp, fun xf wq hk hbl hd K hK => by
      have y : Blk wq (w6.heap.size) 24 #[.bool b6, .slice A6 n6 c6, .slice A'6 n'6 c'6] := hbl _ (List.Mem.tail _ (List.Mem.tail _ (List.Mem.tail _ (List.Mem.tail _ (List.Mem.tail _ (List.Mem.head _)))))) (by simp [Region.binds])
      have c0 : wq.cell? ⟨w6.heap.size, 0, none⟩ = some (.bool b6) := y.cell 0
      have c1 : wq.cell? ⟨w6.heap.size, 1, none⟩ = some (.slice A6 n6 c6) := y.cell 1
      have c2 : wq.cell? ⟨w6.heap.size, 2, none⟩ = some (.slice A'6 n'6 c'6) := y.cell 2
      (try dsimp only)
      go_simp
      exact hK.out (.agg #[.bool b6, .slice A6 n6 c6, .slice A'6 n'6 c'6]) _ rfl (brefl _)⟩
  · exact .inl ⟨by simp, by simp, fun xf wq hk hbl hd K hK => by
      obtain ⟨b9, A9, n9, c9, A'9, n'9, c'9, d2, h9⟩ : VQ ((((1 : Int) : Rat)) - (((t).t) * ((t).t))) ((1) + ((k) + (k)) + 1) (xf 2) wq := hd ⟨2, .data⟩ (by simp) rfl
      have d3 : xf 3 = .agg #[.bool b6, .slice A6 n6 c6, .slice A'6 n'6 c'6] := hd ⟨3, .data⟩ (by simp) rfl
      (try dsimp only); (try simp only [d2, d3])
      go_simp
      go_at_call 44
      (with_reducible refine (t_over _ b9 A9 n9 c9 A'9 n'9 c'9 ((((1 : Int) : Rat)) - (((t).t) * ((t).t))) ((1) + ((k) + (k)) + 1) ?_ b6 A6 n6 c6 A'6 n'6 c'6 ((((1 : Int) : Rat)) + (((t).t) * ((t).t))) ((1) + ((k) + (k)) + 1) ?_ ?_ ?_ ?_ ?_ ?_).mono ?_); (exact h9.qz); (exact (h6.keep hk).qz); (first | omega | decide | assumption); (first | omega | decide | assumption); (first | omega | decide | assumption); (first | omega | decide | assumption); (exact HNE.out); rintro e wr ⟨b10, A10, n10, c10, A'10, n'10, c'10, rfl, h10, hbr⟩
      have hz := hK.out _ _ ⟨b10, A10, n10, c10, A'10, n'10, c'10, rfl, h10⟩ hbr
      simp only [d2, d3] at hz
      exact hz⟩
  · exact .inl ⟨by simp, by simp, fun xf wq hk hbl hd K hK => by
      (try dsimp only)
      go_simp
      exact hK.out (.pointer (some ⟨w.heap.size, 0, none⟩)) _ rfl (brefl _)⟩
  · exact .inl ⟨by simp, by simp, fun xf wq hk hbl hd K hK => by
      have d5 : xf 5 = .pointer (some ⟨w.heap.size, 0, none⟩) := hd ⟨5, .data⟩ (by simp) rfl
      have y : Blk wq (w.heap.size) 26 #[.bool b, .slice A n c, .slice D m e, .bool false] := hbl _ (List.Mem.head _) (by simp [Region.binds])
      have c0 : wq.cell? ⟨w.heap.size, 0, none⟩ = some (.bool b) := y.cell 0
      have c1 : wq.cell? ⟨w.heap.size, 1, none⟩ = some (.slice A n c) := y.cell 1
      have c2 : wq.cell? ⟨w.heap.size, 2, none⟩ = some (.slice D m e) := y.cell 2
      have c3 : wq.cell? ⟨w.heap.size, 3, none⟩ = some (.bool false) := y.cell 3
      (try dsimp only); (try simp only [d5])
      go_simp
      have hz := hK.out (.agg #[.bool b, .slice A n c, .slice D m e]) _ rfl (brefl _)
      simp only [d5] at hz
      exact hz⟩
  · exact .inl ⟨by simp, by simp, fun xf wq hk hbl hd K hK => by
      (try dsimp only)
      go_simp
      exact hK.out (.pointer (some ⟨w.heap.size, 0, none⟩)) _ rfl (brefl _)⟩
  · exact .inl ⟨by simp, by simp, fun xf wq hk hbl hd K hK => by
      have d7 : xf 7 = .pointer (some ⟨w.heap.size, 0, none⟩) := hd ⟨7, .data⟩ (by simp) rfl
      have y : Blk wq (w.heap.size) 26 #[.bool b, .slice A n c, .slice D m e, .bool false] := hbl _ (List.Mem.head _) (by simp [Region.binds])
      have c0 : wq.cell? ⟨w.heap.size, 0, none⟩ = some (.bool b) := y.cell 0
      have c1 : wq.cell? ⟨w.heap.size, 1, none⟩ = some (.slice A n c) := y.cell 1
      have c2 : wq.cell? ⟨w.heap.size, 2, none⟩ = some (.slice D m e) := y.cell 2
      have c3 : wq.cell? ⟨w.heap.size, 3, none⟩ = some (.bool false) := y.cell 3
      (try dsimp only); (try simp only [d7])
      go_simp
      have hz := hK.out (.agg #[.bool b, .slice A n c, .slice D m e]) _ rfl (brefl _)
      simp only [d7] at hz
      exact hz⟩
  · exact .inl ⟨by simp, by simp, fun xf wq hk hbl hd K hK => by
      have d6 : xf 6 = .agg #[.bool b, .slice A n c, .slice D m e] := hd ⟨6, .data⟩ (by simp) rfl
      have d8 : xf 8 = .agg #[.bool b, .slice A n c, .slice D m e] := hd ⟨8, .data⟩ (by simp) rfl
      (try dsimp only); (try simp only [d6, d8])
      go_simp
      go_at_call 11
      (with_reducible refine (f_add _ b A n c D m e ((t).t) (k) ?_ b A n c D m e ((t).t) (k) ?_ ?_ ?_ ?_ ?_).mono ?_); (exact (h.keep hk).qz); (exact (h.keep hk).qz); (first | omega | decide | assumption); (first | omega | decide | assumption); (first | omega | decide | assumption); (first | omega | decide | assumption); rintro e wr ⟨b11, A11, n11, c11, A'11, n'11, c'11, rfl, h11, hbr⟩
      have hz := hK.out _ _ ⟨b11, A11, n11, c11, A'11, n'11, c'11, rfl, h11⟩ hbr
      simp only [d6, d8] at hz
      exact hz⟩
  · exact .inl ⟨by simp, by simp, fun xf wq hk hbl hd K hK => by
      have y : Blk wq (w6.heap.size) 24 #[.bool b6, .slice A6 n6 c6, .slice A'6 n'6 c'6] := hbl _ (List.Mem.tail _ (List.Mem.tail _ (List.Mem.tail _ (List.Mem.tail _ (List.Mem.tail _ (List.Mem.head _)))))) (by simp [Region.binds])
      have c0 : wq.cell? ⟨w6.heap.size, 0, none⟩ = some (.bool b6) := y.cell 0
      have c1 : wq.cell? ⟨w6.heap.size, 1, none⟩ = some (.slice A6 n6 c6) := y.cell 1
      have c2 : wq.cell? ⟨w6.heap.size, 2, none⟩ = some (.slice A'6 n'6 c'6) := y.cell 2
      (try dsimp only)
      go_simp
      exact hK.out (.agg #[.bool b6, .slice A6 n6 c6, .slice A'6 n'6 c'6]) _ rfl (brefl _)⟩
  · exact .inl ⟨by simp, by simp, fun xf wq hk hbl hd K hK => by
      obtain ⟨b11, A11, n11, c11, A'11, n'11, c'11, d9, h11⟩ : VQ (((t).t) + ((t).t)) ((k) + (k) + 1) (xf 9) wq := hd ⟨9, .data⟩ (by simp) rfl
      have d10 : xf 10 = .agg #[.bool b6, .slice A6 n6 c6, .slice A'6 n'6 c'6] := hd ⟨10, .data⟩ (by simp) rfl
      (try dsimp only); (try simp only [d9, d10])
      go_simp
      go_at_call 44
      (with_reducible refine (t_over _ b11 A11 n11 c11 A'11 n'11 c'11 (((t).t) + ((t).t)) ((k) + (k) + 1) ?_ b6 A6 n6 c6 A'6 n'6 c'6 ((((1 : Int) : Rat)) + (((t).t) * ((t).t))) ((1) + ((k) + (k)) + 1) ?_ ?_ ?_ ?_ ?_ ?_).mono ?_); (exact h11.qz); (exact (h6.keep hk).qz); (first | omega | decide | assumption); (first | omega | decide | assumption); (first | omega | decide | assumption); (first | omega | decide | assumption); (exact HNE.out); rintro e wr ⟨b12, A12, n12, c12, A'12, n'12, c'12, rfl, h12, hbr⟩
      have hz := hK.out _ _ ⟨b12, A12, n12, c12, A'12, n'12, c'12, rfl, h12⟩ hbr
      simp only [d9, d10] at hz
      exact hz⟩
  · exact .inr (.inr (.inr ⟨⟨w.heap.size + 1, 12, 0, 24, #[.bool false, .slice none 0 0, .slice none 0 0], CQ (((((1 : Int) : Rat)) - (((t).t) * ((t).t))) / ((((1 : Int) : Rat)) + (((t).t) * ((t).t)))) (((1) + ((k) + (k)) + 1) + ((1) + ((k) + (k)) + 1))⟩, by simp, rfl, by simp, by simp, (show KT 24 = false by decide), fun _ _ => True.intro, fun xf wq hblk hd => by
      obtain ⟨b10, A10, n10, c10, A'10, n'10, c'10, d4, h10⟩ : VQ (((((1 : Int) : Rat)) - (((t).t) * ((t).t))) / ((((1 : Int) : Rat)) + (((t).t) * ((t).t)))) (((1) + ((k) + (k)) + 1) + ((1) + ((k) + (k)) + 1)) (xf 4) wq := hd ⟨4, .data⟩ (by simp) rfl
      dsimp only at hblk
      refine ⟨[.bool b10, .slice A10 n10 c10, .slice A'10 n'10 c'10], fun w' hk => ⟨b10, A10, n10, c10, A'10, n'10, c'10, rfl, h10.keep hk⟩, fun K hK => ?_⟩
      have hc0 : wq.cell? ⟨w.heap.size + 1, 0, none⟩ = some (.bool false) := hblk.cell 0
      have hc1 : wq.cell? ⟨w.heap.size + 1, 1, none⟩ = some (.slice none 0 0) := hblk.cell 1
      have hc2 : wq.cell? ⟨w.heap.size + 1, 2, none⟩ = some (.slice none 0 0) := hblk.cell 2
      have hf0 : wq.frozen? ⟨w.heap.size + 1, 0, none⟩ = false := hblk.frozen 0
      have hf1 : wq.frozen? ⟨w.heap.size + 1, 1, none⟩ = false := hblk.frozen 1
      have hf2 : wq.frozen? ⟨w.heap.size + 1, 2, none⟩ = false := hblk.frozen 2
      (try dsimp only)
      simp only [d4]
      go_simp
      have hz := hK.out undef
      simp only [d4] at hz
      exact hz⟩))
  · exact .inr (.inr (.inr ⟨⟨w.heap.size + 1 + 1, 13, 0, 24, #[.bool false, .slice none 0 0, .slice none 0 0], CQ ((((t).t) + ((t).t)) / ((((1 : Int) : Rat)) + (((t).t) * ((t).t)))) (((k) + (k) + 1) + ((1) + ((k) + (k)) + 1))⟩, by simp, rfl, by simp, by simp, (show KT 24 = false by decide), fun _ _ => True.intro, fun xf wq hblk hd => by
      obtain ⟨b12, A12, n12, c12, A'12, n'12, c'12, d11, h12⟩ : VQ ((((t).t) + ((t).t)) / ((((1 : Int) : Rat)) + (((t).t) * ((t).t)))) (((k) + (k) + 1) + ((1) + ((k) + (k)) + 1)) (xf 11) wq := hd ⟨11, .data⟩ (by simp) rfl
      dsimp only at hblk
      refine ⟨[.bool b12, .slice A12 n12 c12, .slice A'12 n'12 c'12], fun w' hk => ⟨b12, A12, n12, c12, A'12, n'12, c'12, rfl, h12.keep hk⟩, fun K hK => ?_⟩
      have hc0 : wq.cell? ⟨w.heap.size + 1 + 1, 0, none⟩ = some (.bool false) := hblk.cell 0
      have hc1 : wq.cell? ⟨w.heap.size + 1 + 1, 1, none⟩ = some (.slice none 0 0) := hblk.cell 1
      have hc2 : wq.cell? ⟨w.heap.size + 1 + 1, 2, none⟩ = some (.slice none 0 0) := hblk.cell 2
      have hf0 : wq.frozen? ⟨w.heap.size + 1 + 1, 0, none⟩ = false := hblk.frozen 0
      have hf1 : wq.frozen? ⟨w.heap.size + 1 + 1, 1, none⟩ = false := hblk.frozen 1
      have hf2 : wq.frozen? ⟨w.heap.size + 1 + 1, 2, none⟩ = false := hblk.frozen 2
      (try dsimp only)
      simp only [d11]
      go_simp
      have hz := hK.out undef
      simp only [d11] at hz
      exact hz⟩))
  clear cz2_0_0 cz2_0_1 cz2_0_2 cz2_0_3 lz2_0_0 lz2_0_1 lz2_0_2 lz2_0_3 cxg4_2_0 cxg4_2_1 cxg4_2_2 lxg4_2_0 lxg4_2_1 lxg4_2_2 lxg4_2_3 cxg5_2_0 cxg5_2_1 cxg5_2_2 lxg5_2_0 lxg5_2_1 lxg5_2_2 lxg5_2_3 cx7_0_0 cx7_0_1 cx7_0_2 lx7_0_0 lx7_0_1 lx7_0_2 lx7_0_3
  intro y8 w8 kq8 hbl8 lw8 how hrr hfl hds
  replace h := h.keep kq8
  replace h3 := h3.keep kq8
  replace h4 := h4.keep kq8
  replace h6 := h6.keep kq8
  obtain ⟨_, z8_0, ez, _⟩ := how _ (List.Mem.head _)
  obtain rfl := ez (by simp)
  dsimp only at z8_0
  obtain ⟨_, z8_1, _, ez⟩ := how _ (List.Mem.tail _ (List.Mem.head _))
  obtain ⟨b10, A10, n10, c10, A'10, n'10, c'10, rfl, h10⟩ := ez (by simp)
  dsimp only at z8_1
  obtain ⟨_, z8_2, _, ez⟩ := how _ (List.Mem.tail _ (List.Mem.tail _ (List.Mem.head _)))
  obtain ⟨b12, A12, n12, c12, A'12, n'12, c'12, rfl, h12⟩ := ez (by simp)
  dsimp only at z8_2
  obtain ⟨_, z8_3, ez, _⟩ := how _ (List.Mem.tail _ (List.Mem.tail _ (List.Mem.tail _ (List.Mem.head _))))
  obtain rfl := ez (by simp)
  dsimp only at z8_3
  obtain ⟨_, z8_4, ez, _⟩ := how _ (List.Mem.tail _ (List.Mem.tail _ (List.Mem.tail _ (List.Mem.tail _ (List.Mem.head _)))))
  obtain rfl := ez (by simp)
  dsimp only at z8_4
  obtain ⟨_, z8_5, ez, _⟩ := how _ (List.Mem.tail _ (List.Mem.tail _ (List.Mem.tail _ (List.Mem.tail _ (List.Mem.tail _ (List.Mem.head _))))))
  obtain rfl := ez (by simp)
  dsimp only at z8_5
  (try dsimp only)
  clear hrr hfl how hds 
  clear z2_0 z2_1 z2_2 xg4_2 xg5_2 x7_0
  have bw8 : Below w.heap.size w w8 := bw7.trans hbl8
  clear bw7
  have cz8_1_0 : w8.cell? ⟨w.heap.size + 1, 0, none⟩ = some (.bool b10) := z8_1.cell 0
  have cz8_1_1 : w8.cell? ⟨w.heap.size + 1, 1, none⟩ = some (.slice A10 n10 c10) := z8_1.cell 1
  have cz8_1_2 : w8.cell? ⟨w.heap.size + 1, 2, none⟩ = some (.slice A'10 n'10 c'10) := z8_1.cell 2
  have lz8_1_0 : w.heap.size + 1 < w8.heap.size := by have := z8_1.lt; omega
  have lz8_1_1 : w.heap.size < w8.heap.size := by have := z8_1.lt; omega
  have lz8_1_2 : w.heap.size < w8.heap.size + 1 := by have := z8_1.lt; omega
  have lz8_1_3 : w.heap.size < w8.heap.size + 2 := by have := z8_1.lt; omega
  have cz8_2_0 : w8.cell? ⟨w.heap.size + 1 + 1, 0, none⟩ = some (.bool b12) := z8_2.cell 0
  have cz8_2_1 : w8.cell? ⟨w.heap.size + 1 + 1, 1, none⟩ = some (.slice A12 n12 c12) := z8_2.cell 1
  have cz8_2_2 : w8.cell? ⟨w.heap.size + 1 + 1, 2, none⟩ = some (.slice A'12 n'12 c'12) := z8_2.cell 2
  have lz8_2_0 : w.heap.size + 2 < w8.heap.size := by have := z8_2.lt; omega
  have lz8_2_1 : w.heap.size + 1 < w8.heap.size := by have := z8_2.lt; omega
  have lz8_2_2 : w.heap.size < w8.heap.size := by have := z8_2.lt; omega
  have lz8_2_3 : w.heap.size < w8.heap.size + 1 := by have := z8_2.lt; omega
  go_wp2_with fail
  rw [HC.out] at h10
  rw [HS.out] at h12
  refine bodyPost_ret (v := .tuple #[.agg #[.bool b10, .slice A10 n10 c10, .slice A'10 n'10 c'10], .agg #[.bool b12, .slice A12 n12 c12, .slice A'12 n'12 c'12]]) (by simp [results, Try.results29, go_sem, *] <;> first | rfl | exact ⟨rfl, rfl⟩) rfl ?_
  have kp := (Kp.refl w8)
  exact ⟨b10, A10, n10, c10, A'10, n'10, c'10, b12, A12, n12, c12, A'12, n'12, c'12, rfl, (h10.keep kp).mono (by omega), (h12.keep kp).mono (by omega), bw8⟩
set_option maxRecDepth 100000 in
set_option maxHeartbeats 4000000 in
/-- turn.direction -/
theorem t_direction_true (w : World) (b : Bool) (A : Option Addr) (n c : Nat) (D : Option Addr) (m e : Nat) (t : TN) (k : Nat) (h : TK w b A n c D m e true t k) (h0 : 0 < k) (hk : k ≤ 1000000) :
    Calls Try.prog 29 #[.agg #[.bool b, .slice A n c, .slice D m e, .bool true]] w (RetQQ w (tcos t) (tsin t) (4 * k + 4)) := by
  have HC := Lib.hid (show ((-1 : Int) : Rat) = tcos t by unfold tcos; rw [if_pos h.2.1.symm]; rfl)
  have HS := Lib.hid (show 0 = tsin t by unfold tsin; rw [if_pos h.2.1.symm])
  go_enter Try.func29, Try.ntmps29
  go_wp2_with fail
  (with_reducible refine (f_of _ ((-1)) ?_ ?_).mono ?_); (first | omega | decide | assumption); (first | omega | decide | assumption); rintro e w1 ⟨b1, A1, n1, c1, A'1, n'1, c'1, rfl, h1, hb1⟩
  have q1 : Below w.heap.size w w1 := ((((Below.refl _ _).alloc (Nat.le_refl _) _).alloc (by simp) _).alloc (by simp <;> omega) _).trans (hb1.mono (by simp <;> omega))
  replace h := h.belw q1
  have x1_0 : Blk w1 (w.heap.size) 26 #[.bool b, .slice A n c, .slice D m e, .bool true] := (((blkAt _ _ _ (by simp)).alloc _).alloc _).below hb1 (by simp <;> omega)
  have x1_1 : Blk w1 (w.heap.size + 1) 24 #[.bool false, .slice none 0 0, .slice none 0 0] := ((blkAt _ _ _ (by simp)).alloc _).below hb1 (by simp <;> omega)
  have x1_2 : Blk w1 (w.heap.size + 1 + 1) 24 #[.bool false, .slice none 0 0, .slice none 0 0] := (blkAt _ _ _ (by simp)).below hb1 (by simp)
  have bw1 : Below w.heap.size w w1 := (brefl w).trans (q1.mono (brefl w).size)
  have lw1 : w.heap.size + 3 ≤ w1.heap.size := by have := hb1.size; simp at this; omega
  clear hb1 q1
  have cx1_1_0 : w1.cell? ⟨w.heap.size + 1, 0, none⟩ = some (.bool false) := x1_1.cell 0
  have fx1_1_0 : w1.frozen? ⟨w.heap.size + 1, 0, none⟩ = false := x1_1.frozen 0
  have cx1_1_1 : w1.cell? ⟨w.heap.size + 1, 1, none⟩ = some (.slice none 0 0) := x1_1.cell 1
  have fx1_1_1 : w1.frozen? ⟨w.heap.size + 1, 1, none⟩ = false := x1_1.frozen 1
  have cx1_1_2 : w1.cell? ⟨w.heap.size + 1, 2, none⟩ = some (.slice none 0 0) := x1_1.cell 2
  have fx1_1_2 : w1.frozen? ⟨w.heap.size + 1, 2, none⟩ = false := x1_1.frozen 2
  have lx1_1_0 : w.heap.size + 1 < w1.heap.size := by have := x1_1.lt; omega
  have lx1_1_1 : w.heap.size < w1.heap.size := by have := x1_1.lt; omega
  have lx1_1_2 : w.heap.size < w1.heap.size + 1 := by have := x1_1.lt; omega
  have lx1_1_3 : w.heap.size < w1.heap.size + 2 := by have := x1_1.lt; omega
  have cx1_2_0 : w1.cell? ⟨w.heap.size + 1 + 1, 0, none⟩ = some (.bool false) := x1_2.cell 0
  have fx1_2_0 : w1.frozen? ⟨w.heap.size + 1 + 1, 0, none⟩ = false := x1_2.frozen 0
  have cx1_2_1 : w1.cell? ⟨w.heap.size + 1 + 1, 1, none⟩ = some (.slice none 0 0) := x1_2.cell 1
  have fx1_2_1 : w1.frozen? ⟨w.heap.size + 1 + 1, 1, none⟩ = false := x1_2.frozen 1
  have cx1_2_2 : w1.cell? ⟨w.heap.size + 1 + 1, 2, none⟩ = some (.slice none 0 0) := x1_2.cell 2
  have fx1_2_2 : w1.frozen? ⟨w.heap.size + 1 + 1, 2, none⟩ = false := x1_2.frozen 2
  have lx1_2_0 : w.heap.size + 2 < w1.heap.size := by have := x1_2.lt; omega
  have lx1_2_1 : w.heap.size + 1 < w1.heap.size := by have := x1_2.lt; omega
  have lx1_2_2 : w.heap.size < w1.heap.size := by have := x1_2.lt; omega
  have lx1_2_3 : w.heap.size < w1.heap.size + 1 := by have := x1_2.lt; omega
  go_wp2_with fail
  rw [HC.out] at h1
  rw [← HS.out]
  refine bodyPost_ret (v := .tuple #[.agg #[.bool b1, .slice A1 n1 c1, .slice A'1 n'1 c'1], .agg #[.bool false, .slice none 0 0, .slice none 0 0]]) (by simp [results, Try.results29, go_sem, *] <;> first | rfl | exact ⟨rfl, rfl⟩) rfl ?_
  have kp := (((((((Kp.refl w1).setB (p := ⟨w.heap.size + 1, 0, none⟩) x1_1.box (by decide) (.bool b1)).setB (p := ⟨w.heap.size + 1, 1, none⟩) (x1_1.box.set ⟨w.heap.size + 1, 0, none⟩ (.bool b1)) (by decide) (.slice A1 n1 c1)).setB (p := ⟨w.heap.size + 1, 2, none⟩) ((x1_1.box.set ⟨w.heap.size + 1, 0, none⟩ (.bool b1)).set ⟨w.heap.size + 1, 1, none⟩ (.slice A1 n1 c1)) (by decide) (.slice A'1 n'1 c'1)).setB (p := ⟨w.heap.size + 1 + 1, 0, none⟩) (((x1_2.box.set ⟨w.heap.size + 1, 0, none⟩ (.bool b1)).set ⟨w.heap.size + 1, 1, none⟩ (.slice A1 n1 c1)).set ⟨w.heap.size + 1, 2, none⟩ (.slice A'1 n'1 c'1)) (by decide) (.bool false)).setB (p := ⟨w.heap.size + 1 + 1, 1, none⟩) ((((x1_2.box.set ⟨w.heap.size + 1, 0, none⟩ (.bool b1)).set ⟨w.heap.size + 1, 1, none⟩ (.slice A1 n1 c1)).set ⟨w.heap.size + 1, 2, none⟩ (.slice A'1 n'1 c'1)).set ⟨w.heap.size + 1 + 1, 0, none⟩ (.bool false)) (by decide) (.slice none 0 0)).setB (p := ⟨w.heap.size + 1 + 1, 2, none⟩) (((((x1_2.box.set ⟨w.heap.size + 1, 0, none⟩ (.bool b1)).set ⟨w.heap.size + 1, 1, none⟩ (.slice A1 n1 c1)).set ⟨w.heap.size + 1, 2, none⟩ (.slice A'1 n'1 c'1)).set ⟨w.heap.size + 1 + 1, 0, none⟩ (.bool false)).set ⟨w.heap.size + 1 + 1, 1, none⟩ (.slice none 0 0)) (by decide) (.slice none 0 0))
  exact ⟨b1, A1, n1, c1, A'1, n'1, c'1, false, none, 0, 0, none, 0, 0, rfl, (h1.keep kp).mono (by omega), QV.zero _ _, ((((((bw1.setCell (p := ⟨w.heap.size + 1, 0, none⟩) (by dsimp only; omega) (.bool b1)).setCell (p := ⟨w.heap.size + 1, 1, none⟩) (by dsimp only; omega) (.slice A1 n1 c1)).setCell (p := ⟨w.heap.size + 1, 2, none⟩) (by dsimp only; omega) (.slice A'1 n'1 c'1)).setCell (p := ⟨w.heap.size + 1 + 1, 0, none⟩) (by dsimp only; omega) (.bool false)).setCell (p := ⟨w.heap.size + 1 + 1, 1, none⟩) (by dsimp only; omega) (.slice none 0 0)).setCell (p := ⟨w.heap.size + 1 + 1, 2, none⟩) (by dsimp only; omega) (.slice none 0 0))⟩
theorem t_direction (w : World) (b : Bool) (A : Option Addr) (n c : Nat) (D : Option Addr) (m e : Nat) (x : Bool) (t : TN) (k : Nat) (h : TK w b A n c D m e x t k) (h0 : 0 < k) (hk : k ≤ 1000000) : Calls Try.prog 29 #[.agg #[.bool b, .slice A n c, .slice D m e, .bool x]] w (RetQQ w (tcos t) (tsin t) (4 * k + 4)) := by
  cases x
  · exact t_direction_false w b A n c D m e t k h h0 hk
  · exact t_direction_true w b A n c D m e t k h h0 hk
set_option maxRecDepth 100000 in
set_option maxHeartbeats 2000000 in
/-- turn.Cos -/
theorem t_cos (w : World) (b : Bool) (A : Option Addr) (n c : Nat) (D : Option Addr) (m e : Nat) (x : Bool) (t : TN) (k : Nat) (h : TK w b A n c D m e x t k) (h0 : 0 < k) (hk : k ≤ 1000000) :
    Calls Try.prog 15 #[.agg #[.bool b, .slice A n c, .slice D m e, .bool x]] w (RetFe w .nilIface (tcos t) (4 * k + 4)) := by
  go_enter Try.func15, Try.ntmps15
  go_wp2_with fail
  (with_reducible refine (t_check _ b A n c D m e x (t) (k) ?_ ?_ ?_).mono ?_); (exact (h.belw (((Below.refl _ _).alloc (Nat.le_refl _) _).alloc (by simp) _))); (first | omega | decide | assumption); (first | omega | decide | assumption); rintro e w1 ⟨rfl, hb1⟩
  have q1 : Below w.heap.size w w1 := (((Below.refl _ _).alloc (Nat.le_refl _) _).alloc (by simp) _).trans (hb1.mono (by simp <;> omega))
  replace h := h.belw q1
  have x1_0 : Blk w1 (w.heap.size) 26 #[.bool b, .slice A n c, .slice D m e, .bool x] := ((blkAt _ _ _ (by simp)).alloc _).below hb1 (by simp <;> omega)
  have x1_1 : Blk w1 (w.heap.size + 1) 24 #[.bool false, .slice none 0 0, .slice none 0 0] := (blkAt _ _ _ (by simp)).below hb1 (by simp)
  have bw1 : Below w.heap.size w w1 := (brefl w).trans (q1.mono (brefl w).size)
  have lw1 : w.heap.size + 2 ≤ w1.heap.size := by have := hb1.size; simp at this; omega
  clear hb1 q1
  have cx1_0_0 : w1.cell? ⟨w.heap.size, 0, none⟩ = some (.bool b) := x1_0.cell 0
  have cx1_0_1 : w1.cell? ⟨w.heap.size, 1, none⟩ = some (.slice A n c) := x1_0.cell 1
  have cx1_0_2 : w1.cell? ⟨w.heap.size, 2, none⟩ = some (.slice D m e) := x1_0.cell 2
  have cx1_0_3 : w1.cell? ⟨w.heap.size, 3, none⟩ = some (.bool x) := x1_0.cell 3
  have lx1_0_0 : w.heap.size < w1.heap.size := by have := x1_0.lt; omega
  have lx1_0_1 : w.heap.size < w1.heap.size + 1 := by have := x1_0.lt; omega
  have lx1_0_2 : w.heap.size < w1.heap.size + 2 := by have := x1_0.lt; omega
  have lx1_0_3 : w.heap.size < w1.heap.size + 3 := by have := x1_0.lt; omega
  go_wp2_with fail
  (with_reducible refine (t_direction _ b A n c D m e x (t) (k) ?_ ?_ ?_).mono ?_); (exact h); (first | omega | decide | assumption); (first | omega | decide | assumption); rintro e w2 ⟨b2, A2, n2, c2, A'2, n'2, c'2, d2, D2, m2, e2, D'2, m'2, e'2, rfl, h2, h'2, hb2⟩
  clear cx1_0_0 cx1_0_1 cx1_0_2 cx1_0_3 lx1_0_0 lx1_0_1 lx1_0_2 lx1_0_3
  have q2 : Below w1.heap.size w1 w2 := hb2
  replace h := h.belw q2
  replace x1_0 : Blk w2 (w.heap.size) 26 #[.bool b, .slice A n c, .slice D m e, .bool x] := x1_0.below q2 x1_0.lt
  replace x1_1 : Blk w2 (w.heap.size + 1) 24 #[.bool false, .slice none 0 0, .slice none 0 0] := x1_1.below q2 x1_1.lt
  have bw2 : Below w.heap.size w w2 := bw1.trans (q2.mono bw1.size)
  have lw2 : w1.heap.size ≤ w2.heap.size := q2.size
  clear hb2 q2 bw1
  have cx1_1_0 : w2.cell? ⟨w.heap.size + 1, 0, none⟩ = some (.bool false) := x1_1.cell 0
  have fx1_1_0 : w2.frozen? ⟨w.heap.size + 1, 0, none⟩ = false := x1_1.frozen 0
  have cx1_1_1 : w2.cell? ⟨w.heap.size + 1, 1, none⟩ = some (.slice none 0 0) := x1_1.cell 1
  have fx1_1_1 : w2.frozen? ⟨w.heap.size + 1, 1, none⟩ = false := x1_1.frozen 1
  have cx1_1_2 : w2.cell? ⟨w.heap.size + 1, 2, none⟩ = some (.slice none 0 0) := x1_1.cell 2
  have fx1_1_2 : w2.frozen? ⟨w.heap.size + 1, 2, none⟩ = false := x1_1.frozen 2
  have lx1_1_0 : w.heap.size + 1 < w2.heap.size := by have := x1_1.lt; omega
  have lx1_1_1 : w.heap.size < w2.heap.size := by have := x1_1.lt; omega
  have lx1_1_2 : w.heap.size < w2.heap.size + 1 := by have := x1_1.lt; omega
  have lx1_1_3 : w.heap.size < w2.heap.size + 2 := by have := x1_1.lt; omega
  go_wp2_with fail
  refine bodyPost_ret (v := .tuple #[.agg #[.bool b2, .slice A2 n2 c2, .slice A'2 n'2 c'2], .nilIface]) (by simp [results, Try.results15, go_sem, *] <;> first | rfl | exact ⟨rfl, rfl⟩) rfl ?_
  exact ⟨b2, A2, n2, c2, A'2, n'2, c'2, rfl, h2.keep ((((((Kp.refl w2).setB (p := ⟨w.heap.size + 1, 0, none⟩) x1_1.box (by decide) (.bool b2)).setB (p := ⟨w.heap.size + 1, 1, none⟩) (x1_1.box.set ⟨w.heap.size + 1, 0, none⟩ (.bool b2)) (by decide) (.slice A2 n2 c2)).setB (p := ⟨w.heap.size + 1, 2, none⟩) ((x1_1.box.set ⟨w.heap.size + 1, 0, none⟩ (.bool b2)).set ⟨w.heap.size + 1, 1, none⟩ (.slice A2 n2 c2)) (by decide) (.slice A'2 n'2 c'2)).alloc (.cells #[.bool b2, .slice A2 n2 c2, .slice A'2 n'2 c'2] 24)).alloc (.cells #[.bool d2, .slice D2 m2 e2, .slice D'2 m'2 e'2] 24)), (((((bw2.setCell (p := ⟨w.heap.size + 1, 0, none⟩) (by dsimp only; omega) (.bool b2)).setCell (p := ⟨w.heap.size + 1, 1, none⟩) (by dsimp only; omega) (.slice A2 n2 c2)).setCell (p := ⟨w.heap.size + 1, 2, none⟩) (by dsimp only; omega) (.slice A'2 n'2 c'2)).alloc (by first | omega | (simp <;> omega)) (.cells #[.bool b2, .slice A2 n2 c2, .slice A'2 n'2 c'2] 24)).alloc (by first | omega | (simp <;> omega)) (.cells #[.bool d2, .slice D2 m2 e2, .slice D'2 m'2 e'2] 24))⟩
set_option maxRecDepth 100000 in
set_option maxHeartbeats 2000000 in
/-- turn.Sin -/
theorem t_sin (w : World) (b : Bool) (A : Option Addr) (n c : Nat) (D : Option Addr) (m e : Nat) (x : Bool) (t : TN) (k : Nat) (h : TK w b A n c D m e x t k) (h0 : 0 < k) (hk : k ≤ 1000000) :
    Calls Try.prog 16 #[.agg #[.bool b, .slice A n c, .slice D m e, .bool x]] w (RetFe w .nilIface (tsin t) (4 * k + 4)) := by
  go_enter Try.func16, Try.ntmps16
  go_wp2_with fail
  (with_reducible refine (t_check _ b A n c D m e x (t) (k) ?_ ?_ ?_).mono ?_); (exact (h.belw (((Below.refl _ _).alloc (Nat.le_refl _) _).alloc (by simp) _))); (first | omega | decide | assumption); (first | omega | decide | assumption); rintro e w1 ⟨rfl, hb1⟩
  have q1 : Below w.heap.size w w1 := (((Below.refl _ _).alloc (Nat.le_refl _) _).alloc (by simp) _).trans (hb1.mono (by simp <;> omega))
  replace h := h.belw q1
  have x1_0 : Blk w1 (w.heap.size) 26 #[.bool b, .slice A n c, .slice D m e, .bool x] := ((blkAt _ _ _ (by simp)).alloc _).below hb1 (by simp <;> omega)
  have x1_1 : Blk w1 (w.heap.size + 1) 24 #[.bool false, .slice none 0 0, .slice none 0 0] := (blkAt _ _ _ (by simp)).below hb1 (by simp)
  have bw1 : Below w.heap.size w w1 := (brefl w).trans (q1.mono (brefl w).size)
  have lw1 : w.heap.size + 2 ≤ w1.heap.size := by have := hb1.size; simp at this; omega
  clear hb1 q1
  have cx1_0_0 : w1.cell? ⟨w.heap.size, 0, none⟩ = some (.bool b) := x1_0.cell 0
  have cx1_0_1 : w1.cell? ⟨w.heap.size, 1, none⟩ = some (.slice A n c) := x1_0.cell 1
  have cx1_0_2 : w1.cell? ⟨w.heap.size, 2, none⟩ = some (.slice D m e) := x1_0.cell 2
  have cx1_0_3 : w1.cell? ⟨w.heap.size, 3, none⟩ = some (.bool x) := x1_0.cell 3
  have lx1_0_0 : w.heap.size < w1.heap.size := by have := x1_0.lt; omega
  have lx1_0_1 : w.heap.size < w1.heap.size + 1 := by have := x1_0.lt; omega
  have lx1_0_2 : w.heap.size < w1.heap.size + 2 := by have := x1_0.lt; omega
  have lx1_0_3 : w.heap.size < w1.heap.size + 3 := by have := x1_0.lt; omega
  go_wp2_with fail
  (with_reducible refine (t_direction _ b A n c D m e x (t) (k) ?_ ?_ ?_).mono ?_); (exact h); (first | omega | decide | assumption); (first | omega | decide | assumption); rintro e w2 ⟨b2, A2, n2, c2, A'2, n'2, c'2, d2, D2, m2, e2, D'2, m'2, e'2, rfl, h2, h'2, hb2⟩
  clear cx1_0_0 cx1_0_1 cx1_0_2 cx1_0_3 lx1_0_0 lx1_0_1 lx1_0_2 lx1_0_3
  have q2 : Below w1.heap.size w1 w2 := hb2
  replace h := h.belw q2
  replace x1_0 : Blk w2 (w.heap.size) 26 #[.bool b, .slice A n c, .slice D m e, .bool x] := x1_0.below q2 x1_0.lt
  replace x1_1 : Blk w2 (w.heap.size + 1) 24 #[.bool false, .slice none 0 0, .slice none 0 0] := x1_1.below q2 x1_1.lt
  have bw2 : Below w.heap.size w w2 := bw1.trans (q2.mono bw1.size)
  have lw2 : w1.heap.size ≤ w2.heap.size := q2.size
  clear hb2 q2 bw1
  have cx1_1_0 : w2.cell? ⟨w.heap.size + 1, 0, none⟩ = some (.bool false) := x1_1.cell 0
  have fx1_1_0 : w2.frozen? ⟨w.heap.size + 1, 0, none⟩ = false := x1_1.frozen 0
  have cx1_1_1 : w2.cell? ⟨w.heap.size + 1, 1, none⟩ = some (.slice none 0 0) := x1_1.cell 1
  have fx1_1_1 : w2.frozen? ⟨w.heap.size + 1, 1, none⟩ = false := x1_1.frozen 1
  have cx1_1_2 : w2.cell? ⟨w.heap.size + 1, 2, none⟩ = some (.slice none 0 0) := x1_1.cell 2
  have fx1_1_2 : w2.frozen? ⟨w.heap.size + 1, 2, none⟩ = false := x1_1.frozen 2
  have lx1_1_0 : w.heap.size + 1 < w2.heap.size := by have := x1_1.lt; omega
  have lx1_1_1 : w.heap.size < w2.heap.size := by have := x1_1.lt; omega
  have lx1_1_2 : w.heap.size < w2.heap.size + 1 := by have := x1_1.lt; omega
  have lx1_1_3 : w.heap.size < w2.heap.size + 2 := by have := x1_1.lt; omega
  go_wp2_with fail
  refine bodyPost_ret (v := .tuple #[.agg #[.bool d2, .slice D2 m2 e2, .slice D'2 m'2 e'2], .nilIface]) (by simp [results, Try.results16, go_sem, *] <;> first | rfl | exact ⟨rfl, rfl⟩) rfl ?_
  exact ⟨d2, D2, m2, e2, D'2, m'2, e'2, rfl, h'2.keep ((((((Kp.refl w2).setB (p := ⟨w.heap.size + 1, 0, none⟩) x1_1.box (by decide) (.bool d2)).setB (p := ⟨w.heap.size + 1, 1, none⟩) (x1_1.box.set ⟨w.heap.size + 1, 0, none⟩ (.bool d2)) (by decide) (.slice D2 m2 e2)).setB (p := ⟨w.heap.size + 1, 2, none⟩) ((x1_1.box.set ⟨w.heap.size + 1, 0, none⟩ (.bool d2)).set ⟨w.heap.size + 1, 1, none⟩ (.slice D2 m2 e2)) (by decide) (.slice D'2 m'2 e'2)).alloc (.cells #[.bool b2, .slice A2 n2 c2, .slice A'2 n'2 c'2] 24)).alloc (.cells #[.bool d2, .slice D2 m2 e2, .slice D'2 m'2 e'2] 24)), (((((bw2.setCell (p := ⟨w.heap.size + 1, 0, none⟩) (by dsimp only; omega) (.bool d2)).setCell (p := ⟨w.heap.size + 1, 1, none⟩) (by dsimp only; omega) (.slice D2 m2 e2)).setCell (p := ⟨w.heap.size + 1, 2, none⟩) (by dsimp only; omega) (.slice D'2 m'2 e'2)).alloc (by first | omega | (simp <;> omega)) (.cells #[.bool b2, .slice A2 n2 c2, .slice A'2 n'2 c'2] 24)).alloc (by first | omega | (simp <;> omega)) (.cells #[.bool d2, .slice D2 m2 e2, .slice D'2 m'2 e'2] 24))⟩
end Go.Proofs.Ytmneloabphplmaa
