/- Part A5: lemmas and walks that the claim rests on. No claim is made here. -/
import Derived.Deep.RegionHeld3
import Derived.Deep.DrawnRows
import Derived.Test.YtmneloabphplmaaGreatRows
import Derived.ProofKit
import Derived.Test.YtmneloabphplmaaGreatA4
set_option linter.unusedVariables false
/- Walks: turns, what is called. -/
namespace Go.Proofs.YtmneloabphplmaaGreat
open Go Go.RowKit Bn
attribute [local go_sem ↓] Go.wp_at_zero Go.wp_at_succ
set_option maxRecDepth 100000 in
set_option maxHeartbeats 4000000 in
/-- turn.Add -/
theorem t_Add (w : World) (b : Bool) (A : Option Addr) (n c : Nat) (D : Option Addr) (m e : Nat) (x : Bool) (t : TN) (k : Nat) (h : TK w b A n c D m e x t k) (b' : Bool) (A' : Option Addr) (n' c' : Nat) (D' : Option Addr) (m' e' : Nat) (x' : Bool) (t' : TN) (k' : Nat) (h' : TK w b' A' n' c' D' m' e' x' t' k') (h0 : 0 < k) (hk : k ≤ 400000) (h0' : 0 < k') (hk' : k' ≤ 400000) :
    Calls Tryz.prog 11 #[.agg #[.bool b, .slice A n c, .slice D m e, .bool x], .agg #[.bool b', .slice A' n' c', .slice D' m' e', .bool x']] w (RetTe w .nilIface (tadd t t') (2 * k + 2 * k' + 3)) := by
  go_enter Tryz.func11, Tryz.ntmps11
  go_wp2_with fail
  (with_reducible refine (t_checkAll _ (w.heap.size + 1 + 1 + 1) 2 ((k) + (k')) ?_ ?_ ?_ ?_).mono ?_); (exact ts2 (blkAt _ _ _ (by simp)) ((h.belw (((((Below.refl _ _).alloc (Nat.le_refl _) _).alloc (by simp) _).alloc (by simp <;> omega) _).alloc (by simp <;> omega) _)).mono (by omega)) ((h'.belw (((((Below.refl _ _).alloc (Nat.le_refl _) _).alloc (by simp) _).alloc (by simp <;> omega) _).alloc (by simp <;> omega) _)).mono (by omega))); (decide); (omega); (omega); rintro e w1 ⟨rfl, hb1⟩
  have q1 : Below w.heap.size w w1 := (((((Below.refl _ _).alloc (Nat.le_refl _) _).alloc (by simp) _).alloc (by simp <;> omega) _).alloc (by simp <;> omega) _).trans (hb1.mono (by simp <;> omega))
  replace h := h.belw q1
  replace h' := h'.belw q1
  have x1_0 : Blk w1 (w.heap.size) 26 #[.bool b, .slice A n c, .slice D m e, .bool x] := ((((blkAt _ _ _ (by simp)).alloc _).alloc _).alloc _).below hb1 (by simp <;> omega)
  have x1_1 : Blk w1 (w.heap.size + 1) 26 #[.bool b', .slice A' n' c', .slice D' m' e', .bool x'] := (((blkAt _ _ _ (by simp)).alloc _).alloc _).below hb1 (by simp <;> omega)
  have x1_2 : Blk w1 (w.heap.size + 1 + 1) 26 #[.bool false, .slice none 0 0, .slice none 0 0, .bool false] := ((blkAt _ _ _ (by simp)).alloc _).below hb1 (by simp <;> omega)
  have x1_3 : Blk w1 (w.heap.size + 1 + 1 + 1) 26 #[.bool b, .slice A n c, .slice D m e, .bool x, .bool b', .slice A' n' c', .slice D' m' e', .bool x'] := (blkAt _ _ _ (by simp)).below hb1 (by simp)
  have bw1 : Below w.heap.size w w1 := (brefl w).trans (q1.mono (brefl w).size)
  have lw1 : w.heap.size + 4 ≤ w1.heap.size := by have := hb1.size; simp at this; omega
  clear hb1 q1
  obtain ⟨cx1_0_0, cx1_0_1, cx1_0_2, cx1_0_3⟩ := x1_0.c4
  obtain ⟨lx1_0_0, lx1_0_1, lx1_0_2, lx1_0_3⟩ := lts0 x1_0.lt
  obtain ⟨cx1_1_0, cx1_1_1, cx1_1_2, cx1_1_3⟩ := x1_1.c4
  obtain ⟨lx1_1_0, lx1_1_1, lx1_1_2, lx1_1_3⟩ := lts1 x1_1.lt
  go_wp2_with fail
  (with_reducible refine (t_add _ b A n c D m e x (t) (k) ?_ b' A' n' c' D' m' e' x' (t') (k') ?_ ?_ ?_ ?_ ?_).mono ?_); (exact h); (exact h'); (first | omega | decide | assumption); (first | omega | decide | assumption); (first | omega | decide | assumption); (first | omega | decide | assumption); rintro e w2 ⟨b2, A2, n2, c2, A'2, n'2, c'2, x2, rfl, h2, hb2⟩
  clear cx1_0_0 cx1_0_1 cx1_0_2 cx1_0_3 lx1_0_0 lx1_0_1 lx1_0_2 lx1_0_3 cx1_1_0 cx1_1_1 cx1_1_2 cx1_1_3 lx1_1_0 lx1_1_1 lx1_1_2 lx1_1_3
  have q2 : Below w1.heap.size w1 w2 := hb2
  replace h := h.belw q2
  replace h' := h'.belw q2
  replace x1_0 := x1_0.below q2 x1_0.lt
  replace x1_1 := x1_1.below q2 x1_1.lt
  replace x1_2 := x1_2.below q2 x1_2.lt
  replace x1_3 := x1_3.below q2 x1_3.lt
  have bw2 : Below w.heap.size w w2 := bw1.trans (q2.mono bw1.size)
  have lw2 : w1.heap.size ≤ w2.heap.size := q2.size
  clear hb2 q2 bw1
  obtain ⟨cx1_2_0, cx1_2_1, cx1_2_2, cx1_2_3⟩ := x1_2.c4
  obtain ⟨fx1_2_0, fx1_2_1, fx1_2_2, fx1_2_3⟩ := x1_2.f4
  obtain ⟨lx1_2_0, lx1_2_1, lx1_2_2, lx1_2_3⟩ := lts2 x1_2.lt
  go_wp2_with fail
  refine bodyPost_ret (v := .tuple #[.agg #[.bool b2, .slice A2 n2 c2, .slice A'2 n'2 c'2, .bool x2], .nilIface]) (by simp [results, Tryz.results11, go_sem, *] <;> first | rfl | exact ⟨rfl, rfl⟩) rfl ?_
  have kp := (((((Kp.refl w2).setB (p := ⟨w.heap.size + 1 + 1, 0, none⟩) x1_2.box (by decide) (.bool b2)).setB (p := ⟨w.heap.size + 1 + 1, 1, none⟩) (x1_2.box.set ⟨w.heap.size + 1 + 1, 0, none⟩ (.bool b2)) (by decide) (.slice A2 n2 c2)).setB (p := ⟨w.heap.size + 1 + 1, 2, none⟩) ((x1_2.box.set ⟨w.heap.size + 1 + 1, 0, none⟩ (.bool b2)).set ⟨w.heap.size + 1 + 1, 1, none⟩ (.slice A2 n2 c2)) (by decide) (.slice A'2 n'2 c'2)).setB (p := ⟨w.heap.size + 1 + 1, 3, none⟩) (((x1_2.box.set ⟨w.heap.size + 1 + 1, 0, none⟩ (.bool b2)).set ⟨w.heap.size + 1 + 1, 1, none⟩ (.slice A2 n2 c2)).set ⟨w.heap.size + 1 + 1, 2, none⟩ (.slice A'2 n'2 c'2)) (by decide) (.bool x2))
  exact ⟨b2, A2, n2, c2, A'2, n'2, c'2, x2, rfl, h2.keep kp, ((((bw2.setCell (p := ⟨w.heap.size + 1 + 1, 0, none⟩) (by dsimp only; omega) (.bool b2)).setCell (p := ⟨w.heap.size + 1 + 1, 1, none⟩) (by dsimp only; omega) (.slice A2 n2 c2)).setCell (p := ⟨w.heap.size + 1 + 1, 2, none⟩) (by dsimp only; omega) (.slice A'2 n'2 c'2)).setCell (p := ⟨w.heap.size + 1 + 1, 3, none⟩) (by dsimp only; omega) (.bool x2))⟩
set_option maxRecDepth 100000 in
set_option maxHeartbeats 4000000 in
/-- turn.Apply -/
theorem t_Apply (w : World) (b : Bool) (A : Option Addr) (n c : Nat) (D : Option Addr) (m e : Nat) (x : Bool) (t : TN) (k : Nat) (h : TK w b A n c D m e x t k) (b' : Bool) (A' : Option Addr) (n' c' : Nat) (D' : Option Addr) (m' e' : Nat) (q' : Rat) (k' : Nat) (h' : QZ w b' A' n' c' D' m' e' q' k') (b'' : Bool) (A'' : Option Addr) (n'' c'' : Nat) (D'' : Option Addr) (m'' e'' : Nat) (q'' : Rat) (k'' : Nat) (h'' : QZ w b'' A'' n'' c'' D'' m'' e'' q'' k'') (h0 : 0 < k) (hk : k ≤ 1000000) (h0' : 0 < k') (hk' : k' ≤ 1000000) (h0'' : 0 < k'') (hk'' : k'' ≤ 1000000) :
    Calls Tryz.prog 14 #[.agg #[.bool b, .slice A n c, .slice D m e, .bool x], .agg #[.bool b', .slice A' n' c', .slice D' m' e', .bool b'', .slice A'' n'' c'', .slice D'' m'' e'']] w (RetPe w .nilIface (tapply t q' q'').1 (tapply t q' q'').2 (8 * k + 9 + k' + k'')) := by
  go_enter Tryz.func14, Tryz.ntmps14
  go_wp2_with fail
  (with_reducible refine (t_check _ b A n c D m e x (t) (k) ?_ ?_ ?_).mono ?_); (exact (h.belw ((((Below.refl _ _).alloc (Nat.le_refl _) _).alloc (by simp) _).alloc (by simp <;> omega) _))); (first | omega | decide | assumption); (first | omega | decide | assumption); rintro e w1 ⟨rfl, hb1⟩
  have q1 : Below w.heap.size w w1 := ((((Below.refl _ _).alloc (Nat.le_refl _) _).alloc (by simp) _).alloc (by simp <;> omega) _).trans (hb1.mono (by simp <;> omega))
  replace h := h.belw q1
  replace h' := h'.belw q1
  replace h'' := h''.belw q1
  have x1_0 : Blk w1 (w.heap.size) 26 #[.bool b, .slice A n c, .slice D m e, .bool x] := (((blkAt _ _ _ (by simp)).alloc _).alloc _).below hb1 (by simp <;> omega)
  have x1_1 : Blk w1 (w.heap.size + 1) 38 #[.bool b', .slice A' n' c', .slice D' m' e', .bool b'', .slice A'' n'' c'', .slice D'' m'' e''] := ((blkAt _ _ _ (by simp)).alloc _).below hb1 (by simp <;> omega)
  have x1_2 : Blk w1 (w.heap.size + 1 + 1) 38 #[.bool false, .slice none 0 0, .slice none 0 0, .bool false, .slice none 0 0, .slice none 0 0] := (blkAt _ _ _ (by simp)).below hb1 (by simp)
  have bw1 : Below w.heap.size w w1 := (brefl w).trans (q1.mono (brefl w).size)
  have lw1 : w.heap.size + 3 ≤ w1.heap.size := by have := hb1.size; simp at this; omega
  clear hb1 q1
  obtain ⟨cx1_0_0, cx1_0_1, cx1_0_2, cx1_0_3⟩ := x1_0.c4
  obtain ⟨lx1_0_0, lx1_0_1, lx1_0_2, lx1_0_3⟩ := lts0 x1_0.lt
  go_wp2_with fail
  (with_reducible refine (t_direction _ b A n c D m e x (t) (k) ?_ ?_ ?_).mono ?_); (exact h); (first | omega | decide | assumption); (first | omega | decide | assumption); rintro e w2 ⟨b2, A2, n2, c2, A'2, n'2, c'2, d2, D2, m2, e2, D'2, m'2, e'2, rfl, h2, h'2, hb2⟩
  clear cx1_0_0 cx1_0_1 cx1_0_2 cx1_0_3 lx1_0_0 lx1_0_1 lx1_0_2 lx1_0_3
  have q2 : Below w1.heap.size w1 w2 := hb2
  replace h := h.belw q2
  replace h' := h'.belw q2
  replace h'' := h''.belw q2
  replace x1_0 := x1_0.below q2 x1_0.lt
  replace x1_1 := x1_1.below q2 x1_1.lt
  replace x1_2 := x1_2.below q2 x1_2.lt
  have bw2 : Below w.heap.size w w2 := bw1.trans (q2.mono bw1.size)
  have lw2 : w1.heap.size ≤ w2.heap.size := q2.size
  clear hb2 q2 bw1
  go_wp2_with fail
  have p3 : Kp w2 ((w2.alloc (.cells #[.bool b2, .slice A2 n2 c2, .slice A'2 n'2 c'2] 24)).alloc (.cells #[.bool d2, .slice D2 m2 e2, .slice D'2 m'2 e'2] 24)) := (((Kp.refl w2).alloc (.cells #[.bool b2, .slice A2 n2 c2, .slice A'2 n'2 c'2] 24)).alloc (.cells #[.bool d2, .slice D2 m2 e2, .slice D'2 m'2 e'2] 24))
  have bw3 : Below w.heap.size w ((w2.alloc (.cells #[.bool b2, .slice A2 n2 c2, .slice A'2 n'2 c'2] 24)).alloc (.cells #[.bool d2, .slice D2 m2 e2, .slice D'2 m'2 e'2] 24)) := ((bw2.alloc (by first | omega | (simp <;> omega)) (.cells #[.bool b2, .slice A2 n2 c2, .slice A'2 n'2 c'2] 24)).alloc (by first | omega | (simp <;> omega)) (.cells #[.bool d2, .slice D2 m2 e2, .slice D'2 m'2 e'2] 24))
  have x3_0 : Blk ((w2.alloc (.cells #[.bool b2, .slice A2 n2 c2, .slice A'2 n'2 c'2] 24)).alloc (.cells #[.bool d2, .slice D2 m2 e2, .slice D'2 m'2 e'2] 24)) (w2.heap.size) 24 #[.bool b2, .slice A2 n2 c2, .slice A'2 n'2 c'2] := ((blkAt _ _ _ (by simp)).alloc (.cells #[.bool d2, .slice D2 m2 e2, .slice D'2 m'2 e'2] 24))
  have x3_1 : Blk ((w2.alloc (.cells #[.bool b2, .slice A2 n2 c2, .slice A'2 n'2 c'2] 24)).alloc (.cells #[.bool d2, .slice D2 m2 e2, .slice D'2 m'2 e'2] 24)) (w2.heap.size + 1) 24 #[.bool d2, .slice D2 m2 e2, .slice D'2 m'2 e'2] := (blkAt _ _ _ (by simp))
  replace x1_0 : Blk ((w2.alloc (.cells #[.bool b2, .slice A2 n2 c2, .slice A'2 n'2 c'2] 24)).alloc (.cells #[.bool d2, .slice D2 m2 e2, .slice D'2 m'2 e'2] 24)) (w.heap.size) 26 #[.bool b, .slice A n c, .slice D m e, .bool x] := ((x1_0.alloc (.cells #[.bool b2, .slice A2 n2 c2, .slice A'2 n'2 c'2] 24)).alloc (.cells #[.bool d2, .slice D2 m2 e2, .slice D'2 m'2 e'2] 24))
  replace x1_1 : Blk ((w2.alloc (.cells #[.bool b2, .slice A2 n2 c2, .slice A'2 n'2 c'2] 24)).alloc (.cells #[.bool d2, .slice D2 m2 e2, .slice D'2 m'2 e'2] 24)) (w.heap.size + 1) 38 #[.bool b', .slice A' n' c', .slice D' m' e', .bool b'', .slice A'' n'' c'', .slice D'' m'' e''] := ((x1_1.alloc (.cells #[.bool b2, .slice A2 n2 c2, .slice A'2 n'2 c'2] 24)).alloc (.cells #[.bool d2, .slice D2 m2 e2, .slice D'2 m'2 e'2] 24))
  replace x1_2 : Blk ((w2.alloc (.cells #[.bool b2, .slice A2 n2 c2, .slice A'2 n'2 c'2] 24)).alloc (.cells #[.bool d2, .slice D2 m2 e2, .slice D'2 m'2 e'2] 24)) (w.heap.size + 1 + 1) 38 #[.bool false, .slice none 0 0, .slice none 0 0, .bool false, .slice none 0 0, .slice none 0 0] := ((x1_2.alloc (.cells #[.bool b2, .slice A2 n2 c2, .slice A'2 n'2 c'2] 24)).alloc (.cells #[.bool d2, .slice D2 m2 e2, .slice D'2 m'2 e'2] 24))
  have lw3 : w2.heap.size + 2 ≤ ((w2.alloc (.cells #[.bool b2, .slice A2 n2 c2, .slice A'2 n'2 c'2] 24)).alloc (.cells #[.bool d2, .slice D2 m2 e2, .slice D'2 m'2 e'2] 24)).heap.size := by simp
  generalize hE3 : ((w2.alloc (.cells #[.bool b2, .slice A2 n2 c2, .slice A'2 n'2 c'2] 24)).alloc (.cells #[.bool d2, .slice D2 m2 e2, .slice D'2 m'2 e'2] 24)) = w3 at p3 bw3 lw3 x3_0 x3_1 x1_0 x1_1 x1_2 ⊢
  clear hE3
  replace h := h.keep p3
  replace h' := h'.keep p3
  replace h'' := h''.keep p3
  replace h2 := h2.keep p3
  replace h'2 := h'2.keep p3
  clear bw2
  have cx1_1_0 : w3.cell? ⟨w.heap.size + 1, 0, none⟩ = some (.bool b') := x1_1.cell 0
  have cx1_1_1 : w3.cell? ⟨w.heap.size + 1, 1, none⟩ = some (.slice A' n' c') := x1_1.cell 1
  have cx1_1_2 : w3.cell? ⟨w.heap.size + 1, 2, none⟩ = some (.slice D' m' e') := x1_1.cell 2
  have cx1_1_3 : w3.cell? ⟨w.heap.size + 1, 3, none⟩ = some (.bool b'') := x1_1.cell 3
  have cx1_1_4 : w3.cell? ⟨w.heap.size + 1, 4, none⟩ = some (.slice A'' n'' c'') := x1_1.cell 4
  have cx1_1_5 : w3.cell? ⟨w.heap.size + 1, 5, none⟩ = some (.slice D'' m'' e'') := x1_1.cell 5
  obtain ⟨lx1_1_0, lx1_1_1, lx1_1_2, lx1_1_3⟩ := lts1 x1_1.lt
  obtain ⟨cx3_0_0, cx3_0_1, cx3_0_2⟩ := x3_0.c3
  obtain ⟨lx3_0_0, lx3_0_1, lx3_0_2, lx3_0_3⟩ := lts0 x3_0.lt
  obtain ⟨cx3_1_0, cx3_1_1, cx3_1_2⟩ := x3_1.c3
  obtain ⟨lx3_1_0, lx3_1_1, lx3_1_2, lx3_1_3⟩ := lts1 x3_1.lt
  refine wp_region_lin (B := w.heap.size) (fr := fun xf => ⟨List.toArray (.agg #[.bool b, .slice A n c, .slice D m e, .bool x] :: .agg #[.bool b', .slice A' n' c', .slice D' m' e', .bool b'', .slice A'' n'' c'', .slice D'' m'' e''] :: .pointer (some ⟨w.heap.size, 0, none⟩) :: .pointer (some ⟨w.heap.size + 1, 0, none⟩) :: .pointer (some ⟨w.heap.size + 1 + 1, 0, none⟩) :: xf 20 :: .nilIface :: .pointer (some ⟨w2.heap.size, 0, none⟩) :: .pointer (some ⟨w2.heap.size + 1, 0, none⟩) :: .agg #[.bool b, .slice A n c, .slice D m e, .bool x] :: .nilIface :: .nilIface :: .bool false :: undef :: undef :: .tuple #[.agg #[.bool b2, .slice A2 n2 c2, .slice A'2 n'2 c'2], .agg #[.bool d2, .slice D2 m2 e2, .slice D'2 m'2 e'2]] :: .agg #[.bool b, .slice A n c, .slice D m e, .bool x] :: .tuple #[.agg #[.bool b2, .slice A2 n2 c2, .slice A'2 n'2 c'2], .agg #[.bool d2, .slice D2 m2 e2, .slice D'2 m'2 e'2]] :: .agg #[.bool b2, .slice A2 n2 c2, .slice A'2 n'2 c'2] :: .agg #[.bool d2, .slice D2 m2 e2, .slice D'2 m'2 e'2] :: xf 0 :: xf 1 :: xf 2 :: xf 3 :: xf 4 :: xf 5 :: xf 6 :: xf 7 :: xf 8 :: xf 9 :: xf 10 :: xf 11 :: xf 12 :: xf 13 :: xf 14 :: xf 15 :: xf 16 :: xf 17 :: xf 18 :: []), []⟩) (R := fun i => List.getD ((PEq (.agg #[.bool b2, .slice A2 n2 c2, .slice A'2 n'2 c'2])) :: (PEq (.pointer (some ⟨w.heap.size + 1, 0, none⟩))) :: (PEq (.agg #[.bool b', .slice A' n' c', .slice D' m' e'])) :: (VQ ((tcos (t)) * (q')) ((4 * (k) + 4) + (k'))) :: (PEq (.agg #[.bool d2, .slice D2 m2 e2, .slice D'2 m'2 e'2])) :: (PEq (.pointer (some ⟨w.heap.size + 1, 3, none⟩))) :: (PEq (.agg #[.bool b'', .slice A'' n'' c'', .slice D'' m'' e''])) :: (VQ ((tsin (t)) * (q'')) ((4 * (k) + 4) + (k''))) :: (VQ (((tcos (t)) * (q')) - ((tsin (t)) * (q''))) (((4 * (k) + 4) + (k')) + ((4 * (k) + 4) + (k'')) + 1)) :: (PEq (.agg #[.bool d2, .slice D2 m2 e2, .slice D'2 m'2 e'2])) :: (PEq (.pointer (some ⟨w.heap.size + 1, 0, none⟩))) :: (PEq (.agg #[.bool b', .slice A' n' c', .slice D' m' e'])) :: (VQ ((tsin (t)) * (q')) ((4 * (k) + 4) + (k'))) :: (PEq (.agg #[.bool b2, .slice A2 n2 c2, .slice A'2 n'2 c'2])) :: (PEq (.pointer (some ⟨w.heap.size + 1, 3, none⟩))) :: (PEq (.agg #[.bool b'', .slice A'' n'' c'', .slice D'' m'' e''])) :: (VQ ((tcos (t)) * (q'')) ((4 * (k) + 4) + (k''))) :: (VQ (((tsin (t)) * (q')) + ((tcos (t)) * (q''))) (((4 * (k) + 4) + (k')) + ((4 * (k) + 4) + (k'')) + 1)) :: (VP (((tcos (t)) * (q')) - ((tsin (t)) * (q''))) (((4 * (k) + 4) + (k')) + ((4 * (k) + 4) + (k'')) + 1) (((tsin (t)) * (q')) + ((tcos (t)) * (q''))) (((4 * (k) + 4) + (k')) + ((4 * (k) + 4) + (k'')) + 1)) :: PAny :: (PEq (.nilIface)) :: []) i (fun _ _ => True)) (es := []) (ow := [⟨w.heap.size, 21, 0, 26, #[.bool b, .slice A n c, .slice D m e, .bool x], CAny⟩, ⟨w.heap.size + 1, 21, 0, 38, #[.bool b', .slice A' n' c', .slice D' m' e', .bool b'', .slice A'' n'' c'', .slice D'' m'' e''], CAny⟩, ⟨w.heap.size + 1 + 1, 19, 0, 38, #[.bool false, .slice none 0 0, .slice none 0 0, .bool false, .slice none 0 0, .slice none 0 0], CP (((tcos (t)) * (q')) - ((tsin (t)) * (q''))) (((4 * (k) + 4) + (k')) + ((4 * (k) + 4) + (k'')) + 1) (((tsin (t)) * (q')) + ((tcos (t)) * (q''))) (((4 * (k) + 4) + (k')) + ((4 * (k) + 4) + (k'')) + 1)⟩, ⟨w2.heap.size, 21, 0, 24, #[.bool b2, .slice A2 n2 c2, .slice A'2 n'2 c'2], CAny⟩, ⟨w2.heap.size + 1, 21, 0, 24, #[.bool d2, .slice D2 m2 e2, .slice D'2 m'2 e'2], CAny⟩]) (x0 := (upd (fun _ => undef) 20 (.nilIface))) (by kernel_rfl)
    (each_of ⟨fun _ _ => rfl, fun _ _ => rfl, fun _ _ => rfl, fun _ _ => rfl, fun _ _ => rfl, fun _ _ => rfl, fun _ _ => rfl, fun _ _ => rfl, fun _ _ => rfl, fun _ _ => rfl, fun _ _ => rfl, fun _ _ => rfl, fun _ _ => rfl, fun _ _ => rfl, fun _ _ => rfl, fun _ _ => rfl, fun _ _ => rfl, fun _ _ => rfl, fun _ _ => rfl, fun _ _ => rfl, fun _ _ => rfl, trivial⟩) (each_of (acyc_from _ 0 (by kernel_rfl))) (AllStab.get _ ⟨stEq _, stEq _, stEq _, stQ _ _, stEq _, stEq _, stEq _, stQ _ _, stQ _ _, stEq _, stEq _, stEq _, stQ _ _, stEq _, stEq _, stEq _, stQ _ _, stQ _ _, stP _ _ _ _, stAny, stEq _, trivial⟩)
    (fun _ h => nomatch h) (List.forall_mem_cons.2 ⟨scAny, List.forall_mem_cons.2 ⟨scAny, List.forall_mem_cons.2 ⟨scP _ _ _ _, List.forall_mem_cons.2 ⟨scAny, List.forall_mem_cons.2 ⟨scAny, fun _ h => nomatch h⟩⟩⟩⟩⟩) (fun _ h => nomatch h) bw3.size
    (List.forall_mem_cons.2 ⟨⟨x1_0, by show w.heap.size ≤ w.heap.size; omega⟩, List.forall_mem_cons.2 ⟨⟨x1_1, by show w.heap.size ≤ w.heap.size + 1; omega⟩, List.forall_mem_cons.2 ⟨⟨x1_2, by show w.heap.size ≤ w.heap.size + 1 + 1; omega⟩, List.forall_mem_cons.2 ⟨⟨x3_0, by show w.heap.size ≤ w2.heap.size; omega⟩, List.forall_mem_cons.2 ⟨⟨x3_1, by show w.heap.size ≤ w2.heap.size + 1; omega⟩, fun _ h => nomatch h⟩⟩⟩⟩⟩) (ownDist (by simp <;> omega))
    (each_of ⟨?_, ?_, ?_, ?_, ?_, ?_, ?_, ?_, ?_, ?_, ?_, ?_, ?_, ?_, ?_, ?_, ?_, ?_, ?_, ?_, ?_, trivial⟩) ?_
  · exact .inl ⟨by simp, by simp, fun xf wq hk hbl hd K hK => by
      have y : Blk wq (w2.heap.size) 24 #[.bool b2, .slice A2 n2 c2, .slice A'2 n'2 c'2] := hbl _ (List.Mem.tail _ (List.Mem.tail _ (List.Mem.tail _ (List.Mem.head _)))) (by simp [Region.binds])
      obtain ⟨hcl0, hcl1, hcl2⟩ := y.c3
      (try dsimp only)
      go_simp
      exact hK.out (.agg #[.bool b2, .slice A2 n2 c2, .slice A'2 n'2 c'2]) _ rfl (brefl _)⟩
  · exact .inl ⟨by simp, by simp, fun xf wq hk hbl hd K hK => by
      (try dsimp only)
      go_simp
      exact hK.out (.pointer (some ⟨w.heap.size + 1, 0, none⟩)) _ rfl (brefl _)⟩
  · exact .inl ⟨by simp, by simp, fun xf wq hk hbl hd K hK => by
      have d1 : xf 1 = .pointer (some ⟨w.heap.size + 1, 0, none⟩) := hd ⟨1, .data⟩ (by simp) rfl
      have y : Blk wq (w.heap.size + 1) 38 #[.bool b', .slice A' n' c', .slice D' m' e', .bool b'', .slice A'' n'' c'', .slice D'' m'' e''] := hbl _ (List.Mem.tail _ (List.Mem.head _)) (by simp [Region.binds])
      obtain ⟨hcl0, hcl1, hcl2, hcl3, hcl4, hcl5⟩ := y.c6
      (try dsimp only); (try simp only [d1])
      go_simp
      have hz := hK.out (.agg #[.bool b', .slice A' n' c', .slice D' m' e']) _ rfl (brefl _)
      simp only [d1] at hz
      exact hz⟩
  · exact .inl ⟨by simp, by simp, fun xf wq hk hbl hd K hK => by
      have d0 : xf 0 = .agg #[.bool b2, .slice A2 n2 c2, .slice A'2 n'2 c'2] := hd ⟨0, .data⟩ (by simp) rfl
      have d2 : xf 2 = .agg #[.bool b', .slice A' n' c', .slice D' m' e'] := hd ⟨2, .data⟩ (by simp) rfl
      (try dsimp only); (try simp only [d0, d2])
      go_simp
      go_at_call 39
      (with_reducible refine (f_mul _ b2 A2 n2 c2 A'2 n'2 c'2 (tcos (t)) (4 * (k) + 4) ?_ b' A' n' c' D' m' e' (q') (k') ?_ ?_ ?_ ?_ ?_).mono ?_); (exact (h2.keep hk).qz); (exact (h'.keep hk)); (first | omega | decide | assumption); (first | omega | decide | assumption); (first | omega | decide | assumption); (first | omega | decide | assumption); rintro e wr ⟨b5, A5, n5, c5, A'5, n'5, c'5, rfl, h5, hbr⟩
      have hz := hK.out _ _ ⟨b5, A5, n5, c5, A'5, n'5, c'5, rfl, h5⟩ hbr
      simp only [d0, d2] at hz
      exact hz⟩
  · exact .inl ⟨by simp, by simp, fun xf wq hk hbl hd K hK => by
      have y : Blk wq (w2.heap.size + 1) 24 #[.bool d2, .slice D2 m2 e2, .slice D'2 m'2 e'2] := hbl _ (List.Mem.tail _ (List.Mem.tail _ (List.Mem.tail _ (List.Mem.tail _ (List.Mem.head _))))) (by simp [Region.binds])
      obtain ⟨hcl0, hcl1, hcl2⟩ := y.c3
      (try dsimp only)
      go_simp
      exact hK.out (.agg #[.bool d2, .slice D2 m2 e2, .slice D'2 m'2 e'2]) _ rfl (brefl _)⟩
  · exact .inl ⟨by simp, by simp, fun xf wq hk hbl hd K hK => by
      (try dsimp only)
      go_simp
      exact hK.out (.pointer (some ⟨w.heap.size + 1, 3, none⟩)) _ rfl (brefl _)⟩
  · exact .inl ⟨by simp, by simp, fun xf wq hk hbl hd K hK => by
      have d5 : xf 5 = .pointer (some ⟨w.heap.size + 1, 3, none⟩) := hd ⟨5, .data⟩ (by simp) rfl
      have y : Blk wq (w.heap.size + 1) 38 #[.bool b', .slice A' n' c', .slice D' m' e', .bool b'', .slice A'' n'' c'', .slice D'' m'' e''] := hbl _ (List.Mem.tail _ (List.Mem.head _)) (by simp [Region.binds])
      obtain ⟨hcl0, hcl1, hcl2, hcl3, hcl4, hcl5⟩ := y.c6
      (try dsimp only); (try simp only [d5])
      go_simp
      have hz := hK.out (.agg #[.bool b'', .slice A'' n'' c'', .slice D'' m'' e'']) _ rfl (brefl _)
      simp only [d5] at hz
      exact hz⟩
  · exact .inl ⟨by simp, by simp, fun xf wq hk hbl hd K hK => by
      have d4 : xf 4 = .agg #[.bool d2, .slice D2 m2 e2, .slice D'2 m'2 e'2] := hd ⟨4, .data⟩ (by simp) rfl
      have d6 : xf 6 = .agg #[.bool b'', .slice A'' n'' c'', .slice D'' m'' e''] := hd ⟨6, .data⟩ (by simp) rfl
      (try dsimp only); (try simp only [d4, d6])
      go_simp
      go_at_call 39
      (with_reducible refine (f_mul _ d2 D2 m2 e2 D'2 m'2 e'2 (tsin (t)) (4 * (k) + 4) ?_ b'' A'' n'' c'' D'' m'' e'' (q'') (k'') ?_ ?_ ?_ ?_ ?_).mono ?_); (exact (h'2.keep hk).qz); (exact (h''.keep hk)); (first | omega | decide | assumption); (first | omega | decide | assumption); (first | omega | decide | assumption); (first | omega | decide | assumption); rintro e wr ⟨b6, A6, n6, c6, A'6, n'6, c'6, rfl, h6, hbr⟩
      have hz := hK.out _ _ ⟨b6, A6, n6, c6, A'6, n'6, c'6, rfl, h6⟩ hbr
      simp only [d4, d6] at hz
      exact hz⟩
  · exact .inl ⟨by simp, by simp, fun xf wq hk hbl hd K hK => by
      obtain ⟨b5, A5, n5, c5, A'5, n'5, c'5, d3, h5⟩ : VQ ((tcos (t)) * (q')) ((4 * (k) + 4) + (k')) (xf 3) wq := hd ⟨3, .data⟩ (by simp) rfl
      obtain ⟨b6, A6, n6, c6, A'6, n'6, c'6, d7, h6⟩ : VQ ((tsin (t)) * (q'')) ((4 * (k) + 4) + (k'')) (xf 7) wq := hd ⟨7, .data⟩ (by simp) rfl
      (try dsimp only); (try simp only [d3, d7])
      go_simp
      go_at_call 38
      (with_reducible refine (f_sub _ b5 A5 n5 c5 A'5 n'5 c'5 ((tcos (t)) * (q')) ((4 * (k) + 4) + (k')) ?_ b6 A6 n6 c6 A'6 n'6 c'6 ((tsin (t)) * (q'')) ((4 * (k) + 4) + (k'')) ?_ ?_ ?_ ?_ ?_).mono ?_); (exact h5.qz); (exact h6.qz); (first | omega | decide | assumption); (first | omega | decide | assumption); (first | omega | decide | assumption); (first | omega | decide | assumption); rintro e wr ⟨b7, A7, n7, c7, A'7, n'7, c'7, rfl, h7, hbr⟩
      have hz := hK.out _ _ ⟨b7, A7, n7, c7, A'7, n'7, c'7, rfl, h7⟩ hbr
      simp only [d3, d7] at hz
      exact hz⟩
  · exact .inl ⟨by simp, by simp, fun xf wq hk hbl hd K hK => by
      have y : Blk wq (w2.heap.size + 1) 24 #[.bool d2, .slice D2 m2 e2, .slice D'2 m'2 e'2] := hbl _ (List.Mem.tail _ (List.Mem.tail _ (List.Mem.tail _ (List.Mem.tail _ (List.Mem.head _))))) (by simp [Region.binds])
      obtain ⟨hcl0, hcl1, hcl2⟩ := y.c3
      (try dsimp only)
      go_simp
      exact hK.out (.agg #[.bool d2, .slice D2 m2 e2, .slice D'2 m'2 e'2]) _ rfl (brefl _)⟩
  · exact .inl ⟨by simp, by simp, fun xf wq hk hbl hd K hK => by
      (try dsimp only)
      go_simp
      exact hK.out (.pointer (some ⟨w.heap.size + 1, 0, none⟩)) _ rfl (brefl _)⟩
  · exact .inl ⟨by simp, by simp, fun xf wq hk hbl hd K hK => by
      have d10 : xf 10 = .pointer (some ⟨w.heap.size + 1, 0, none⟩) := hd ⟨10, .data⟩ (by simp) rfl
      have y : Blk wq (w.heap.size + 1) 38 #[.bool b', .slice A' n' c', .slice D' m' e', .bool b'', .slice A'' n'' c'', .slice D'' m'' e''] := hbl _ (List.Mem.tail _ (List.Mem.head _)) (by simp [Region.binds])
      obtain ⟨hcl0, hcl1, hcl2, hcl3, hcl4, hcl5⟩ := y.c6
      (try dsimp only); (try simp only [d10])
      go_simp
      have hz := hK.out (.agg #[.bool b', .slice A' n' c', .slice D' m' e']) _ rfl (brefl _)
      simp only [d10] at hz
      exact hz⟩
  · exact .inl ⟨by simp, by simp, fun xf wq hk hbl hd K hK => by
      have d9 : xf 9 = .agg #[.bool d2, .slice D2 m2 e2, .slice D'2 m'2 e'2] := hd ⟨9, .data⟩ (by simp) rfl
      have d11 : xf 11 = .agg #[.bool b', .slice A' n' c', .slice D' m' e'] := hd ⟨11, .data⟩ (by simp) rfl
      (try dsimp only); (try simp only [d9, d11])
      go_simp
      go_at_call 39
      (with_reducible refine (f_mul _ d2 D2 m2 e2 D'2 m'2 e'2 (tsin (t)) (4 * (k) + 4) ?_ b' A' n' c' D' m' e' (q') (k') ?_ ?_ ?_ ?_ ?_).mono ?_); (exact (h'2.keep hk).qz); (exact (h'.keep hk)); (first | omega | decide | assumption); (first | omega | decide | assumption); (first | omega | decide | assumption); (first | omega | decide | assumption); rintro e wr ⟨b8, A8, n8, c8, A'8, n'8, c'8, rfl, h8, hbr⟩
      have hz := hK.out _ _ ⟨b8, A8, n8, c8, A'8, n'8, c'8, rfl, h8⟩ hbr
      simp only [d9, d11] at hz
      exact hz⟩
  · exact .inl ⟨by simp, by simp, fun xf wq hk hbl hd K hK => by
      have y : Blk wq (w2.heap.size) 24 #[.bool b2, .slice A2 n2 c2, .slice A'2 n'2 c'2] := hbl _ (List.Mem.tail _ (List.Mem.tail _ (List.Mem.tail _ (List.Mem.head _)))) (by simp [Region.binds])
      obtain ⟨hcl0, hcl1, hcl2⟩ := y.c3
      (try dsimp only)
      go_simp
      exact hK.out (.agg #[.bool b2, .slice A2 n2 c2, .slice A'2 n'2 c'2]) _ rfl (brefl _)⟩
  · exact .inl ⟨by simp, by simp, fun xf wq hk hbl hd K hK => by
      (try dsimp only)
      go_simp
      exact hK.out (.pointer (some ⟨w.heap.size + 1, 3, none⟩)) _ rfl (brefl _)⟩
  · exact .inl ⟨by simp, by simp, fun xf wq hk hbl hd K hK => by
      have d14 : xf 14 = .pointer (some ⟨w.heap.size + 1, 3, none⟩) := hd ⟨14, .data⟩ (by simp) rfl
      have y : Blk wq (w.heap.size + 1) 38 #[.bool b', .slice A' n' c', .slice D' m' e', .bool b'', .slice A'' n'' c'', .slice D'' m'' e''] := hbl _ (List.Mem.tail _ (List.Mem.head _)) (by simp [Region.binds])
      obtain ⟨hcl0, hcl1, hcl2, hcl3, hcl4, hcl5⟩ := y.c6
      (try dsimp only); (try simp only [d14])
      go_simp
      have hz := hK.out (.agg #[.bool b'', .slice A'' n'' c'', .slice D'' m'' e'']) _ rfl (brefl _)
      simp only [d14] at hz
      exact hz⟩
  · exact .inl ⟨by simp, by simp, fun xf wq hk hbl hd K hK => by
      have d13 : xf 13 = .agg #[.bool b2, .slice A2 n2 c2, .slice A'2 n'2 c'2] := hd ⟨13, .data⟩ (by simp) rfl
      have d15 : xf 15 = .agg #[.bool b'', .slice A'' n'' c'', .slice D'' m'' e''] := hd ⟨15, .data⟩ (by simp) rfl
      (try dsimp only); (try simp only [d13, d15])
      go_simp
      go_at_call 39
      (with_reducible refine (f_mul _ b2 A2 n2 c2 A'2 n'2 c'2 (tcos (t)) (4 * (k) + 4) ?_ b'' A'' n'' c'' D'' m'' e'' (q'') (k'') ?_ ?_ ?_ ?_ ?_).mono ?_); (exact (h2.keep hk).qz); (exact (h''.keep hk)); (first | omega | decide | assumption); (first | omega | decide | assumption); (first | omega | decide | assumption); (first | omega | decide | assumption); rintro e wr ⟨b9, A9, n9, c9, A'9, n'9, c'9, rfl, h9, hbr⟩
      have hz := hK.out _ _ ⟨b9, A9, n9, c9, A'9, n'9, c'9, rfl, h9⟩ hbr
      simp only [d13, d15] at hz
      exact hz⟩
  · exact .inl ⟨by simp, by simp, fun xf wq hk hbl hd K hK => by
      obtain ⟨b8, A8, n8, c8, A'8, n'8, c'8, d12, h8⟩ : VQ ((tsin (t)) * (q')) ((4 * (k) + 4) + (k')) (xf 12) wq := hd ⟨12, .data⟩ (by simp) rfl
      obtain ⟨b9, A9, n9, c9, A'9, n'9, c'9, d16, h9⟩ : VQ ((tcos (t)) * (q'')) ((4 * (k) + 4) + (k'')) (xf 16) wq := hd ⟨16, .data⟩ (by simp) rfl
      (try dsimp only); (try simp only [d12, d16])
      go_simp
      go_at_call 40
      (with_reducible refine (f_add _ b8 A8 n8 c8 A'8 n'8 c'8 ((tsin (t)) * (q')) ((4 * (k) + 4) + (k')) ?_ b9 A9 n9 c9 A'9 n'9 c'9 ((tcos (t)) * (q'')) ((4 * (k) + 4) + (k'')) ?_ ?_ ?_ ?_ ?_).mono ?_); (exact h8.qz); (exact h9.qz); (first | omega | decide | assumption); (first | omega | decide | assumption); (first | omega | decide | assumption); (first | omega | decide | assumption); rintro e wr ⟨b10, A10, n10, c10, A'10, n'10, c'10, rfl, h10, hbr⟩
      have hz := hK.out _ _ ⟨b10, A10, n10, c10, A'10, n'10, c'10, rfl, h10⟩ hbr
      simp only [d12, d16] at hz
      exact hz⟩
  · exact .inl ⟨by simp, by simp, fun xf wq hk hbl hd K hK => by
      obtain ⟨b7, A7, n7, c7, A'7, n'7, c'7, d8, h7⟩ : VQ (((tcos (t)) * (q')) - ((tsin (t)) * (q''))) (((4 * (k) + 4) + (k')) + ((4 * (k) + 4) + (k'')) + 1) (xf 8) wq := hd ⟨8, .data⟩ (by simp) rfl
      obtain ⟨b10, A10, n10, c10, A'10, n'10, c'10, d17, h10⟩ : VQ (((tsin (t)) * (q')) + ((tcos (t)) * (q''))) (((4 * (k) + 4) + (k')) + ((4 * (k) + 4) + (k'')) + 1) (xf 17) wq := hd ⟨17, .data⟩ (by simp) rfl
      (try dsimp only); (try simp only [d8, d17])
      go_simp
      have hz := hK.out _ _ ⟨b7, A7, n7, c7, A'7, n'7, c'7, b10, A10, n10, c10, A'10, n'10, c'10, rfl, h7, h10⟩ (brefl _)
      simp only [d8, d17] at hz
      exact hz⟩
  · exact .inr (.inr (.inr ⟨⟨w.heap.size + 1 + 1, 19, 0, 38, #[.bool false, .slice none 0 0, .slice none 0 0, .bool false, .slice none 0 0, .slice none 0 0], CP (((tcos (t)) * (q')) - ((tsin (t)) * (q''))) (((4 * (k) + 4) + (k')) + ((4 * (k) + 4) + (k'')) + 1) (((tsin (t)) * (q')) + ((tcos (t)) * (q''))) (((4 * (k) + 4) + (k')) + ((4 * (k) + 4) + (k'')) + 1)⟩, by simp, rfl, by simp, by simp, (show KT 38 = false by decide), fun _ _ => True.intro, fun xf wq hblk hd => by
      obtain ⟨b7, A7, n7, c7, A'7, n'7, c'7, b10, A10, n10, c10, A'10, n'10, c'10, d18, hB4_18⟩ : VP (((tcos (t)) * (q')) - ((tsin (t)) * (q''))) (((4 * (k) + 4) + (k')) + ((4 * (k) + 4) + (k'')) + 1) (((tsin (t)) * (q')) + ((tcos (t)) * (q''))) (((4 * (k) + 4) + (k')) + ((4 * (k) + 4) + (k'')) + 1) (xf 18) wq := hd ⟨18, .data⟩ (by simp) rfl
      dsimp only at hblk
      refine ⟨[.bool b7, .slice A7 n7 c7, .slice A'7 n'7 c'7, .bool b10, .slice A10 n10 c10, .slice A'10 n'10 c'10], fun w' hk => ⟨b7, A7, n7, c7, A'7, n'7, c'7, b10, A10, n10, c10, A'10, n'10, c'10, rfl, hB4_18.keep hk⟩, fun K hK => ?_⟩
      have hc0 : wq.cell? ⟨w.heap.size + 1 + 1, 0, none⟩ = some (.bool false) := hblk.cell 0
      have hc1 : wq.cell? ⟨w.heap.size + 1 + 1, 1, none⟩ = some (.slice none 0 0) := hblk.cell 1
      have hc2 : wq.cell? ⟨w.heap.size + 1 + 1, 2, none⟩ = some (.slice none 0 0) := hblk.cell 2
      have hc3 : wq.cell? ⟨w.heap.size + 1 + 1, 3, none⟩ = some (.bool false) := hblk.cell 3
      have hc4 : wq.cell? ⟨w.heap.size + 1 + 1, 4, none⟩ = some (.slice none 0 0) := hblk.cell 4
      have hc5 : wq.cell? ⟨w.heap.size + 1 + 1, 5, none⟩ = some (.slice none 0 0) := hblk.cell 5
      have hf0 : wq.frozen? ⟨w.heap.size + 1 + 1, 0, none⟩ = false := hblk.frozen 0
      have hf1 : wq.frozen? ⟨w.heap.size + 1 + 1, 1, none⟩ = false := hblk.frozen 1
      have hf2 : wq.frozen? ⟨w.heap.size + 1 + 1, 2, none⟩ = false := hblk.frozen 2
      have hf3 : wq.frozen? ⟨w.heap.size + 1 + 1, 3, none⟩ = false := hblk.frozen 3
      have hf4 : wq.frozen? ⟨w.heap.size + 1 + 1, 4, none⟩ = false := hblk.frozen 4
      have hf5 : wq.frozen? ⟨w.heap.size + 1 + 1, 5, none⟩ = false := hblk.frozen 5
      (try dsimp only)
      simp only [d18]
      go_simp
      have hz := hK.out undef
      simp only [d18] at hz
      exact hz⟩))
  · exact .inl ⟨by simp, by simp, fun xf wq hk hbl hd K hK => by
      (try dsimp only)
      go_simp
      exact hK.out (.nilIface) _ rfl (brefl _)⟩
  clear cx1_1_0 cx1_1_1 cx1_1_2 cx1_1_3 cx1_1_4 cx1_1_5 lx1_1_0 lx1_1_1 lx1_1_2 lx1_1_3 cx3_0_0 cx3_0_1 cx3_0_2 lx3_0_0 lx3_0_1 lx3_0_2 lx3_0_3 cx3_1_0 cx3_1_1 cx3_1_2 lx3_1_0 lx3_1_1 lx3_1_2 lx3_1_3
  intro y4 w4 kq4 hbl4 lw4 how hrr hfl hds
  replace h := h.keep kq4
  replace h' := h'.keep kq4
  replace h'' := h''.keep kq4
  replace h2 := h2.keep kq4
  replace h'2 := h'2.keep kq4
  obtain ⟨_, z4_0, ez, _⟩ := how _ (List.Mem.head _)
  obtain rfl := ez (by simp)
  dsimp only at z4_0
  obtain ⟨_, z4_1, ez, _⟩ := how _ (List.Mem.tail _ (List.Mem.head _))
  obtain rfl := ez (by simp)
  dsimp only at z4_1
  obtain ⟨_, z4_2, _, ez⟩ := how _ (List.Mem.tail _ (List.Mem.tail _ (List.Mem.head _)))
  obtain ⟨b7, A7, n7, c7, A'7, n'7, c'7, b10, A10, n10, c10, A'10, n'10, c'10, rfl, hB4_18⟩ := ez (by simp)
  dsimp only at z4_2
  obtain ⟨_, z4_3, ez, _⟩ := how _ (List.Mem.tail _ (List.Mem.tail _ (List.Mem.tail _ (List.Mem.head _))))
  obtain rfl := ez (by simp)
  dsimp only at z4_3
  obtain ⟨_, z4_4, ez, _⟩ := how _ (List.Mem.tail _ (List.Mem.tail _ (List.Mem.tail _ (List.Mem.tail _ (List.Mem.head _)))))
  obtain rfl := ez (by simp)
  dsimp only at z4_4
  have ea20 : y4 20 = .nilIface := hrr 20 (by simp)
  (try dsimp only)
  simp only [ea20]
  clear hrr hfl how hds ea20
  clear x1_0 x1_1 x1_2 x3_0 x3_1
  have bw4 : Below w.heap.size w w4 := bw3.trans hbl4
  clear bw3
  have cz4_2_0 : w4.cell? ⟨w.heap.size + 1 + 1, 0, none⟩ = some (.bool b7) := z4_2.cell 0
  have cz4_2_1 : w4.cell? ⟨w.heap.size + 1 + 1, 1, none⟩ = some (.slice A7 n7 c7) := z4_2.cell 1
  have cz4_2_2 : w4.cell? ⟨w.heap.size + 1 + 1, 2, none⟩ = some (.slice A'7 n'7 c'7) := z4_2.cell 2
  have cz4_2_3 : w4.cell? ⟨w.heap.size + 1 + 1, 3, none⟩ = some (.bool b10) := z4_2.cell 3
  have cz4_2_4 : w4.cell? ⟨w.heap.size + 1 + 1, 4, none⟩ = some (.slice A10 n10 c10) := z4_2.cell 4
  have cz4_2_5 : w4.cell? ⟨w.heap.size + 1 + 1, 5, none⟩ = some (.slice A'10 n'10 c'10) := z4_2.cell 5
  obtain ⟨lz4_2_0, lz4_2_1, lz4_2_2, lz4_2_3⟩ := lts2 z4_2.lt
  go_wp2_with fail
  refine bodyPost_ret (v := .tuple #[.agg #[.bool b7, .slice A7 n7 c7, .slice A'7 n'7 c'7, .bool b10, .slice A10 n10 c10, .slice A'10 n'10 c'10], .nilIface]) (by simp [results, Tryz.results14, go_sem, *] <;> first | rfl | exact ⟨rfl, rfl⟩) rfl ?_
  have kp := (Kp.refl w4)
  exact ⟨b7, A7, n7, c7, A'7, n'7, c'7, b10, A10, n10, c10, A'10, n'10, c'10, rfl, (hB4_18.1.keep kp).mono (by omega), (hB4_18.2.keep kp).mono (by omega), bw4⟩
end Go.Proofs.YtmneloabphplmaaGreat

/- Walks: the reference: what is wrong with a turn. -/
namespace Go.Proofs.YtmneloabphplmaaGreat
open Go Go.RowKit Bn
attribute [local go_sem ↓] Go.wp_at_zero Go.wp_at_succ
/-- A turn is accepted. -/
def accT (a : RD) (x : Bool) : Bool := a.ok && (!x || a.q.num.sign == 0)
theorem g_sign_e (w : World) (b : Bool) (A : Option Addr) (n c : Nat) (D : Option Addr) (m e : Nat) (q : Rat) (k : Nat) (h : QZ w b A n c D m e q k) (s : Int) (hs : q.num.sign = s) (h0 : 0 < k) (hk : k ≤ 40000000) : Calls Tryz.prog 30 #[.agg #[.bool b, .slice A n c, .slice D m e]] w (RetV w (.int .i64 s)) := by subst hs; exact g_sign w b A n c D m e q k h h0 hk
set_option maxRecDepth 100000 in
set_option maxHeartbeats 2000000 in
/-- linkworkref12.Check -/
theorem g_check_1 (w : World) (b : Bool) (A : Option Addr) (n c : Nat) (D : Option Addr) (m e : Nat) (a : RD) (k : Nat) (h : QD w b A n c D m e a k) (h0 : 0 < k) (hk : k ≤ 30000000) (x : Bool) (ho : a.ok = false) :
    Calls Tryz.prog 8 #[.agg #[.bool b, .slice A n c, .slice D m e, .bool x]] w (RetV w (.int .i64 2)) := by
  have HO := Lib.hid ho
  have hq : QZ w b A n c D m e a.q k := ⟨a, h, rfl⟩
  clear ho
  go_enter Tryz.func8, Tryz.ntmps8
  go_wp2_with fail
  (with_reducible refine (g_valid_e _ b A n c D m e a k false ?_ ?_ ?_).mono ?_); (exact h.belw ((Below.refl _ _).alloc (Nat.le_refl _) _)); (omega); (exact HO.out); rintro e w1 ⟨rfl, hb1⟩
  have q1 : Below w.heap.size w w1 := ((Below.refl _ _).alloc (Nat.le_refl _) _).trans (hb1.mono (by simp))
  replace h := h.belw q1
  replace hq := hq.belw q1
  have x1_0 : Blk w1 (w.heap.size) 26 #[.bool b, .slice A n c, .slice D m e, .bool x] := (blkAt _ _ _ (by simp)).below hb1 (by simp)
  have bw1 : Below w.heap.size w w1 := (brefl w).trans (q1.mono (brefl w).size)
  have lw1 : w.heap.size + 1 ≤ w1.heap.size := by have := hb1.size; simp at this; omega
  clear hb1 q1
  obtain ⟨cx1_0_0, cx1_0_1, cx1_0_2, cx1_0_3⟩ := x1_0.c4
  obtain ⟨lx1_0_0, lx1_0_1, lx1_0_2, lx1_0_3⟩ := lts0 x1_0.lt
  go_wp2_with fail
  go_ret
  exact retI rfl bw1
set_option maxRecDepth 100000 in
set_option maxHeartbeats 2000000 in
/-- linkworkref12.Check -/
theorem g_check_2 (w : World) (b : Bool) (A : Option Addr) (n c : Nat) (D : Option Addr) (m e : Nat) (a : RD) (k : Nat) (h : QD w b A n c D m e a k) (h0 : 0 < k) (hk : k ≤ 30000000) (ho : a.ok = true) :
    Calls Tryz.prog 8 #[.agg #[.bool b, .slice A n c, .slice D m e, .bool false]] w (RetV w (.int .i64 0)) := by
  have HO := Lib.hid ho
  have hq : QZ w b A n c D m e a.q k := ⟨a, h, rfl⟩
  clear ho
  go_enter Tryz.func8, Tryz.ntmps8
  go_wp2_with fail
  (with_reducible refine (g_valid_e _ b A n c D m e a k true ?_ ?_ ?_).mono ?_); (exact h.belw ((Below.refl _ _).alloc (Nat.le_refl _) _)); (omega); (exact HO.out); rintro e w1 ⟨rfl, hb1⟩
  have q1 : Below w.heap.size w w1 := ((Below.refl _ _).alloc (Nat.le_refl _) _).trans (hb1.mono (by simp))
  replace h := h.belw q1
  replace hq := hq.belw q1
  have x1_0 : Blk w1 (w.heap.size) 26 #[.bool b, .slice A n c, .slice D m e, .bool false] := (blkAt _ _ _ (by simp)).below hb1 (by simp)
  have bw1 : Below w.heap.size w w1 := (brefl w).trans (q1.mono (brefl w).size)
  have lw1 : w.heap.size + 1 ≤ w1.heap.size := by have := hb1.size; simp at this; omega
  clear hb1 q1
  obtain ⟨cx1_0_0, cx1_0_1, cx1_0_2, cx1_0_3⟩ := x1_0.c4
  obtain ⟨lx1_0_0, lx1_0_1, lx1_0_2, lx1_0_3⟩ := lts0 x1_0.lt
  go_wp2_with fail
  go_ret
  exact retI rfl bw1
set_option maxRecDepth 100000 in
set_option maxHeartbeats 2000000 in
/-- linkworkref12.Check -/
theorem g_check_3 (w : World) (b : Bool) (A : Option Addr) (n c : Nat) (D : Option Addr) (m e : Nat) (a : RD) (k : Nat) (h : QD w b A n c D m e a k) (h0 : 0 < k) (hk : k ≤ 30000000) (ho : a.ok = true) (hs : a.q.num.sign = 0) :
    Calls Tryz.prog 8 #[.agg #[.bool b, .slice A n c, .slice D m e, .bool true]] w (RetV w (.int .i64 0)) := by
  have HO := Lib.hid ho
  have hq : QZ w b A n c D m e a.q k := ⟨a, h, rfl⟩
  clear ho
  have HS := Lib.hid hs
  clear hs
  go_enter Tryz.func8, Tryz.ntmps8
  go_wp2_with fail
  (with_reducible refine (g_valid_e _ b A n c D m e a k true ?_ ?_ ?_).mono ?_); (exact h.belw ((Below.refl _ _).alloc (Nat.le_refl _) _)); (omega); (exact HO.out); rintro e w1 ⟨rfl, hb1⟩
  have q1 : Below w.heap.size w w1 := ((Below.refl _ _).alloc (Nat.le_refl _) _).trans (hb1.mono (by simp))
  replace h := h.belw q1
  replace hq := hq.belw q1
  have x1_0 : Blk w1 (w.heap.size) 26 #[.bool b, .slice A n c, .slice D m e, .bool true] := (blkAt _ _ _ (by simp)).below hb1 (by simp)
  have bw1 : Below w.heap.size w w1 := (brefl w).trans (q1.mono (brefl w).size)
  have lw1 : w.heap.size + 1 ≤ w1.heap.size := by have := hb1.size; simp at this; omega
  clear hb1 q1
  obtain ⟨cx1_0_0, cx1_0_1, cx1_0_2, cx1_0_3⟩ := x1_0.c4
  obtain ⟨lx1_0_0, lx1_0_1, lx1_0_2, lx1_0_3⟩ := lts0 x1_0.lt
  go_wp2_with fail
  (with_reducible refine (g_sign_e _ b A n c D m e (a.q) (k) ?_ 0 ?_ ?_ ?_).mono ?_); (exact hq); (exact HS.out); (omega); (omega); rintro e w2 ⟨rfl, hb2⟩
  clear cx1_0_0 cx1_0_1 cx1_0_2 cx1_0_3 lx1_0_0 lx1_0_1 lx1_0_2 lx1_0_3
  have q2 : Below w1.heap.size w1 w2 := hb2
  replace h := h.belw q2
  replace hq := hq.belw q2
  replace x1_0 := x1_0.below q2 x1_0.lt
  have bw2 : Below w.heap.size w w2 := bw1.trans (q2.mono bw1.size)
  have lw2 : w1.heap.size ≤ w2.heap.size := q2.size
  clear hb2 q2 bw1
  go_wp2_with fail
  go_ret
  exact retI rfl bw2
set_option maxRecDepth 100000 in
set_option maxHeartbeats 2000000 in
/-- linkworkref12.Check -/
theorem g_check_4 (w : World) (b : Bool) (A : Option Addr) (n c : Nat) (D : Option Addr) (m e : Nat) (a : RD) (k : Nat) (h : QD w b A n c D m e a k) (h0 : 0 < k) (hk : k ≤ 30000000) (ho : a.ok = true) (hs : a.q.num.sign ≠ 0) :
    Calls Tryz.prog 8 #[.agg #[.bool b, .slice A n c, .slice D m e, .bool true]] w (RetV w (.int .i64 2)) := by
  have HO := Lib.hid ho
  have hq : QZ w b A n c D m e a.q k := ⟨a, h, rfl⟩
  clear ho
  obtain ⟨s, hs1⟩ : ∃ s, a.q.num.sign = s := ⟨_, rfl⟩
  rw [hs1] at hs
  have e0 : ((s : Int) == 0) = false := by simpa using hs
  have e1 : ((s : Int) != 0) = true := bne_iff_ne.2 hs
  have HS := Lib.hid hs1
  clear hs hs1
  go_enter Tryz.func8, Tryz.ntmps8
  go_wp2_with fail
  (with_reducible refine (g_valid_e _ b A n c D m e a k true ?_ ?_ ?_).mono ?_); (exact h.belw ((Below.refl _ _).alloc (Nat.le_refl _) _)); (omega); (exact HO.out); rintro e w1 ⟨rfl, hb1⟩
  have q1 : Below w.heap.size w w1 := ((Below.refl _ _).alloc (Nat.le_refl _) _).trans (hb1.mono (by simp))
  replace h := h.belw q1
  replace hq := hq.belw q1
  have x1_0 : Blk w1 (w.heap.size) 26 #[.bool b, .slice A n c, .slice D m e, .bool true] := (blkAt _ _ _ (by simp)).below hb1 (by simp)
  have bw1 : Below w.heap.size w w1 := (brefl w).trans (q1.mono (brefl w).size)
  have lw1 : w.heap.size + 1 ≤ w1.heap.size := by have := hb1.size; simp at this; omega
  clear hb1 q1
  obtain ⟨cx1_0_0, cx1_0_1, cx1_0_2, cx1_0_3⟩ := x1_0.c4
  obtain ⟨lx1_0_0, lx1_0_1, lx1_0_2, lx1_0_3⟩ := lts0 x1_0.lt
  go_wp2_with fail
  (with_reducible refine (g_sign_e _ b A n c D m e (a.q) (k) ?_ s ?_ ?_ ?_).mono ?_); (exact hq); (exact HS.out); (omega); (omega); rintro e w2 ⟨rfl, hb2⟩
  clear cx1_0_0 cx1_0_1 cx1_0_2 cx1_0_3 lx1_0_0 lx1_0_1 lx1_0_2 lx1_0_3
  have q2 : Below w1.heap.size w1 w2 := hb2
  replace h := h.belw q2
  replace hq := hq.belw q2
  replace x1_0 := x1_0.below q2 x1_0.lt
  have bw2 : Below w.heap.size w w2 := bw1.trans (q2.mono bw1.size)
  have lw2 : w1.heap.size ≤ w2.heap.size := q2.size
  clear hb2 q2 bw1
  go_wp2_with fail
  go_ret
  exact retI rfl bw2
theorem g_check (w : World) (b : Bool) (A : Option Addr) (n c : Nat) (D : Option Addr) (m e : Nat) (a : RD) (k : Nat) (h : QD w b A n c D m e a k) (h0 : 0 < k) (hk : k ≤ 30000000) (x : Bool) : Calls Tryz.prog 8 #[.agg #[.bool b, .slice A n c, .slice D m e, .bool x]] w (RetV w (.int .i64 (if accT a x then 0 else 2))) := by
  cases ho : a.ok
  · have : accT a x = false := by unfold accT; rw [ho]; rfl
    rw [this]; exact g_check_1 w b A n c D m e a k h h0 hk x ho
  · cases x
    · have : accT a false = true := by unfold accT; rw [ho]; rfl
      rw [this]; exact g_check_2 w b A n c D m e a k h h0 hk ho
    · by_cases hs : a.q.num.sign = 0
      · have : accT a true = true := by unfold accT; rw [ho, hs]; rfl
        rw [this]; exact g_check_3 w b A n c D m e a k h h0 hk ho hs
      · have : accT a true = false := by unfold accT; rw [ho]; simpa using hs
        rw [this]; exact g_check_4 w b A n c D m e a k h h0 hk ho hs
/-- An accepted turn, with its number. -/
theorem acc_tk {w : World} {b : Bool} {A : Option Addr} {n c : Nat} {D : Option Addr} {m e : Nat} {a : RD} {k : Nat} (h : QD w b A n c D m e a k) {x : Bool} (ha : accT a x = true) : TK w b A n c D m e x ⟨a.q, x⟩ k := by
  unfold accT at ha
  have h1 := (Bool.and_eq_true _ _).mp ha
  refine ⟨⟨a, h, rfl, h1.1⟩, rfl, fun hx => ?_⟩
  have h2 := h1.2
  simp only at hx
  rw [hx] at h2
  exact Rat.num_eq_zero.1 (Int.sign_eq_zero_iff_zero.1 (by simpa using h2))
end Go.Proofs.YtmneloabphplmaaGreat

/- Walks: the laws' own small functions: short, good. -/
namespace Go.Proofs.YtmneloabphplmaaGreat
open Go Go.RowKit Bn
attribute [local go_sem ↓] Go.wp_at_zero Go.wp_at_succ
/-- Fractions in a row, of some lengths. -/
def Rs (w : World) (g N : Nat) (ns ms : Nat → Nat) : Prop := g < w.heap.size ∧ ∀ i, i < N → ∃ b A c D e, w.cell? ⟨g, i * 3, none⟩ = some (.bool b) ∧ w.cell? ⟨g, i * 3 + 1, none⟩ = some (.slice A (ns i) c) ∧ w.cell? ⟨g, i * 3 + 2, none⟩ = some (.slice D (ms i) e)
theorem Rs.belw {w w' : World} {g N : Nat} {ns ms : Nat → Nat} (h : Rs w g N ns ms) (hb : Below w.heap.size w w') : Rs w' g N ns ms := by
  obtain ⟨hg, h⟩ := h
  have hc := (bcell hb).1
  refine ⟨Nat.lt_of_lt_of_le hg hb.size, fun i hi => ?_⟩
  obtain ⟨b, A, c, D, e, h1, h2, h3⟩ := h i hi
  exact ⟨b, A, c, D, e, (hc _ _ hg).trans h1, (hc _ _ hg).trans h2, (hc _ _ hg).trans h3⟩
def RetSh (w : World) (N : Nat) (ns ms : Nat → Nat) (e : Ending) (w' : World) : Prop := ∃ r : Bool, e = .returned (.bool r) ∧ (r = true → ∀ i, i < N → ns i ≤ 6 ∧ ms i ≤ 6) ∧ Below w.heap.size w w'
set_option maxRecDepth 100000 in
set_option maxHeartbeats 2000000 in
theorem l_short (w : World) (g N : Nat) (ns ms : Nat → Nat) (h : Rs w g N ns ms) (hN : N ≤ 1000) :
    Calls Tryz.prog 6 #[.slice (some ⟨g, 0, none⟩) N N] w (RetSh w N ns ms) := by
  go_enter Tryz.func6, Tryz.ntmps6
  go_wp2_with fail
  go_loopw [7] (fun iv wr => ∃ i : Nat, i ≤ N ∧ iv = .int .i64 (i : Nat) ∧ (∀ j, j < i → ns j ≤ 6 ∧ ms j ≤ 6) ∧ Below w.heap.size w wr) (fun iv _ => N - (intOf iv).toNat)
  case atStart => exact ⟨0, Nat.zero_le _, rfl, fun j hj => absurd hj (by omega), brefl w⟩
  case round =>
    obtain ⟨i, hi, rfl, hall, hb⟩ := hrel
    have HA := Lib.hid hall
    have HB := Lib.hid hb
    by_cases hlt : i < N
    · have hw := h.belw hb
      obtain ⟨b, A, c, D, e, c0, c1, c2⟩ := hw.2 i hlt
      have hgl := hw.1
      have H := Lib.hid h
      obtain ⟨p, hp⟩ : ∃ p, ns i = p := ⟨_, rfl⟩
      obtain ⟨q, hq⟩ : ∃ q, ms i = q := ⟨_, rfl⟩
      rw [hp] at c1
      rw [hq] at c2
      have HP := Lib.hid (And.intro hp hq)
      clear h hw hall hb hp hq
      by_cases h1 : p ≤ 6
      · by_cases h2 : q ≤ 6
        · go_wp2_with fail
          go_roundw
          case rel => exact ⟨i + 1, by omega, by go_num, fun j hj => by
            by_cases hji : j = i
            · subst hji; rw [HP.out.1, HP.out.2]; exact ⟨h1, h2⟩
            · exact HA.out j (by omega), HB.out.alloc HB.out.size _⟩
          case measure => simp [intOf]; omega
        · go_wp2_with fail
          go_ret
          exact ⟨false, rfl, (fun h => nomatch h), HB.out.alloc HB.out.size _⟩
      · go_wp2_with fail
        go_ret
        exact ⟨false, rfl, (fun h => nomatch h), HB.out.alloc HB.out.size _⟩
    · have hiN : i = N := by omega
      subst hiN
      clear h hall hb
      go_wp2_with fail
      go_ret
      exact ⟨true, rfl, fun _ => HA.out, HB.out⟩
/-- Turns in a row, accepted or not. -/
def Gs (w : World) (g N k : Nat) (rs : Nat → RD) (xs : Nat → Bool) : Prop := g < w.heap.size ∧ ∀ i, i < N → ∃ b A m c D m' e, w.cell? ⟨g, i * 4, none⟩ = some (.bool b) ∧ w.cell? ⟨g, i * 4 + 1, none⟩ = some (.slice A m c) ∧ w.cell? ⟨g, i * 4 + 2, none⟩ = some (.slice D m' e) ∧ w.cell? ⟨g, i * 4 + 3, none⟩ = some (.bool (xs i)) ∧ QD w b A m c D m' e (rs i) k
theorem Gs.belw {w w' : World} {g N k : Nat} {rs : Nat → RD} {xs : Nat → Bool} (h : Gs w g N k rs xs) (hb : Below w.heap.size w w') : Gs w' g N k rs xs := by
  obtain ⟨hg, h⟩ := h
  have hc := (bcell hb).1
  refine ⟨Nat.lt_of_lt_of_le hg hb.size, fun i hi => ?_⟩
  obtain ⟨b, A, m, c, D, m', e, h1, h2, h3, h4, h5⟩ := h i hi
  exact ⟨b, A, m, c, D, m', e, (hc _ _ hg).trans h1, (hc _ _ hg).trans h2, (hc _ _ hg).trans h3, (hc _ _ hg).trans h4, h5.belw hb⟩
end Go.Proofs.YtmneloabphplmaaGreat

/- Walks: equal fields of equal fractions. -/
namespace Go.Proofs.YtmneloabphplmaaGreat
open Go Go.RowKit Bn
attribute [local go_sem ↓] Go.wp_at_zero Go.wp_at_succ
set_option maxHeartbeats 1000000 in
/-- linkworkbase.Words, of equal lists -/
theorem b_words (w : World) (A : Option Addr) (n c : Nat) (l : List Nat) (wa : Wd w A n c l) (A' : Option Addr) (n' c' : Nat) (wb : Wd w A' n' c' l) (hn : n ≤ 1000000000) :
    Calls Tryz.prog 52 #[.slice A n c, .slice A' n' c'] w (RetV w (.bool true)) := by
  have hnn : n' = n := by rw [wa.2.1, wb.2.1]
  subst hnn
  have HA := Lib.hid wa
  have HB := Lib.hid wb
  clear wa wb
  go_enter Tryz.func52, Tryz.ntmps52
  go_wp2_with fail
  go_loopw [5] (fun iv wr => ∃ (i q : Nat), i ≤ n' ∧ iv = .int .i64 (i : Nat) ∧ wr = w.drewN q) (fun iv _ => n' - (intOf iv).toNat)
  case atStart => exact ⟨0, 0, Nat.zero_le _, rfl, rfl⟩
  case round =>
    obtain ⟨i, q, hi, rfl, rfl⟩ := hrel
    by_cases hlt : i < n'
    · obtain ⟨g, o, rfl, hc1⟩ := HA.out.at_ (by omega)
      obtain ⟨g', o', rfl, hc2⟩ := HB.out.at_ (by omega)
      have h1 := hc1 i hlt
      have h2 := hc2 i hlt
      have hi0 : (0 : Int) ≤ (i : Int) := by omega
      have hi1 : (i : Int) < (n' : Int) := by omega
      generalize wd l i = x at h1 h2
      clear hc1 hc2
      go_wp2_with fail
      go_quiet (fail)
      go_wp2
      go_roundw
      case rel => exact ⟨i + 1, _, by omega, by go_num, rfl⟩
      case measure => simp [intOf]; omega
    · go_wp2
      go_ret
      exact retB rfl (by repeat (first | exact Below.refl _ _ | refine below_drewN ?_ _))
set_option maxRecDepth 100000 in
set_option maxHeartbeats 2000000 in
/-- linkworkbase.Rat -/
theorem b_rat (w : World) (b : Bool) (A : Option Addr) (n c : Nat) (D : Option Addr) (m e : Nat) (b' : Bool) (A' : Option Addr) (n' c' : Nat) (D' : Option Addr) (m' e' : Nat) (q : Rat) (k k' : Nat) (h : QV w b A n c D m e q k) (h' : QV w b' A' n' c' D' m' e' q k') (hk : k ≤ 1000000) :
    Calls Tryz.prog 24 #[.agg #[.bool b, .slice A n c, .slice D m e], .agg #[.bool b', .slice A' n' c', .slice D' m' e']] w (RetV w (.bool true)) := by
  obtain ⟨e1, ha, hd, hk1, hk2⟩ := h
  obtain ⟨e1', ha', hd', _, _⟩ := h'
  subst e1 e1'
  have HE : ((rd q).neg == (rd q).neg) = true := by simp
  have HA := Lib.hid (And.intro ha ha')
  have HD := Lib.hid (And.intro hd hd')
  clear ha ha' hd hd'
  go_enter Tryz.func24, Tryz.ntmps24
  go_wp2_with fail
  (with_reducible refine (b_words _ A n c (rd q).num ?_ A' n' c' ?_ ?_).mono ?_); (exact HA.out.1.keep (((Kp.refl _).alloc _).alloc _)); (exact HA.out.2.keep (((Kp.refl _).alloc _).alloc _)); (omega); rintro e w1 ⟨rfl, hb⟩
  have q1 : Below w.heap.size w w1 := (((Below.refl _ _).alloc (Nat.le_refl _) _).alloc (by simp) _).trans (hb.mono (by simp <;> omega))
  have x0 : Blk w1 w.heap.size 24 #[.bool (rd q).neg, .slice A n c, .slice D m e] := ((blkAt w _ _ rfl).alloc _).below hb (by simp <;> omega)
  have x1 : Blk w1 (w.heap.size + 1) 24 #[.bool (rd q).neg, .slice A' n' c', .slice D' m' e'] := (blkAt _ _ _ (by simp)).below hb (by simp)
  have c02 : w1.cell? ⟨w.heap.size, 2, none⟩ = some (.slice D m e) := x0.cell 2
  have c12 : w1.cell? ⟨w.heap.size + 1, 2, none⟩ = some (.slice D' m' e') := x1.cell 2
  clear hb
  go_wp2_with fail
  (with_reducible refine (b_words _ D m e (rd q).den ?_ D' m' e' ?_ ?_).mono ?_); (exact HD.out.1.belw q1); (exact HD.out.2.belw q1); (omega); rintro e w2 ⟨rfl, hb2⟩
  go_wp2_with fail
  go_ret
  exact ⟨rfl, q1.trans (hb2.mono q1.size)⟩
end Go.Proofs.YtmneloabphplmaaGreat

/- Walks: the laws: part, awake. -/
namespace Go.Proofs.YtmneloabphplmaaGreat
open Go Go.RowKit Bn
attribute [local go_sem ↓] Go.wp_at_zero Go.wp_at_succ
set_option maxRecDepth 100000 in
set_option maxHeartbeats 2000000 in
/-- linkworklaw12.part -/
theorem l_part (w : World) (i j : Int) (hi : -4294967296 < i) (hi2 : i < 4294967296) (hj : -4294967296 < j) (hj2 : j < 4294967296) (q : Rat) (K : Nat) (hd : j ≠ 0) (hq : Rat.divInt i j = q) (hs : Sz q K) :
    Calls Tryz.prog 22 #[.int .i64 i, .int .i64 j] w (RetF w q K) := by
  have HD := Lib.hid hd
  have HQ := Lib.hid hq
  have HS := Lib.hid hs
  clear hd hq hs
  go_enter Tryz.func22, Tryz.ntmps22
  go_wp2_with fail
  (with_reducible refine (g_make _ (i) (j) hi hi2 hj hj2 q K ?_ ?_ ?_).mono ?_); (exact HD.out); (exact HQ.out); (exact HS.out); rintro e w1 ⟨b1, A1, n1, c1, A'1, n'1, c'1, rfl, h1, hb1⟩
  have q1 : Below w.heap.size w w1 := ((Below.refl _ _).alloc (Nat.le_refl _) _).trans (hb1.mono (by simp))
  have x1_0 : Blk w1 (w.heap.size) 24 #[.bool false, .slice none 0 0, .slice none 0 0] := (blkAt _ _ _ (by simp)).below hb1 (by simp)
  have bw1 : Below w.heap.size w w1 := (brefl w).trans (q1.mono (brefl w).size)
  have lw1 : w.heap.size + 1 ≤ w1.heap.size := by have := hb1.size; simp at this; omega
  clear hb1 q1
  obtain ⟨cx1_0_0, cx1_0_1, cx1_0_2⟩ := x1_0.c3
  obtain ⟨fx1_0_0, fx1_0_1, fx1_0_2⟩ := x1_0.f3
  obtain ⟨lx1_0_0, lx1_0_1, lx1_0_2, lx1_0_3⟩ := lts0 x1_0.lt
  go_wp2_with fail
  refine bodyPost_ret (v := .agg #[.bool b1, .slice A1 n1 c1, .slice A'1 n'1 c'1]) (by simp [results, Tryz.results22, go_sem, *] <;> first | rfl | exact ⟨rfl, rfl⟩) rfl ?_
  exact ⟨b1, A1, n1, c1, A'1, n'1, c'1, rfl, h1.keep (((((Kp.refl w1).setB (p := ⟨w.heap.size, 0, none⟩) x1_0.box (by decide) (.bool b1)).setB (p := ⟨w.heap.size, 1, none⟩) (x1_0.box.set ⟨w.heap.size, 0, none⟩ (.bool b1)) (by decide) (.slice A1 n1 c1)).setB (p := ⟨w.heap.size, 2, none⟩) ((x1_0.box.set ⟨w.heap.size, 0, none⟩ (.bool b1)).set ⟨w.heap.size, 1, none⟩ (.slice A1 n1 c1)) (by decide) (.slice A'1 n'1 c'1)).alloc (.cells #[.bool b1, .slice A1 n1 c1, .slice A'1 n'1 c'1] 24)), ((((bw1.setCell (p := ⟨w.heap.size, 0, none⟩) (by dsimp only; omega) (.bool b1)).setCell (p := ⟨w.heap.size, 1, none⟩) (by dsimp only; omega) (.slice A1 n1 c1)).setCell (p := ⟨w.heap.size, 2, none⟩) (by dsimp only; omega) (.slice A'1 n'1 c'1)).alloc (by first | omega | (simp <;> omega)) (.cells #[.bool b1, .slice A1 n1 c1, .slice A'1 n'1 c'1] 24))⟩
theorem sz_dec {q : Rat} (h : (decide (q.num.natAbs < 4294967296) && decide (q.den < 4294967296)) = true) : Sz q 1 := by
  simp only [Bool.and_eq_true, decide_eq_true_eq] at h
  exact ⟨by rw [Nat.pow_one]; exact h.1, by rw [Nat.pow_one]; exact h.2⟩
theorem aw_cos : tcos ⟨Rat.divInt 1 2, false⟩ = Rat.divInt 3 5 := by kernel_rfl
theorem aw_sin : tsin ⟨Rat.divInt 1 2, false⟩ = Rat.divInt 4 5 := by kernel_rfl
theorem aw_half : (tadd ⟨Rat.divInt 1 1, false⟩ ⟨Rat.divInt 1 1, false⟩).h = true := by kernel_rfl
theorem b_rat_e (w : World) (b : Bool) (A : Option Addr) (n c : Nat) (D : Option Addr) (m e : Nat) (q : Rat) (k : Nat) (h : QV w b A n c D m e q k) (b' : Bool) (A' : Option Addr) (n' c' : Nat) (D' : Option Addr) (m' e' : Nat) (q' : Rat) (k' : Nat) (h' : QV w b' A' n' c' D' m' e' q' k') (hq : q = q') (hk : k ≤ 1000000) :
    Calls Tryz.prog 24 #[.agg #[.bool b, .slice A n c, .slice D m e], .agg #[.bool b', .slice A' n' c', .slice D' m' e']] w (RetV w (.bool true)) := by
  subst hq; exact b_rat w b A n c D m e b' A' n' c' D' m' e' q k k' h h' hk
set_option maxRecDepth 100000 in
set_option maxHeartbeats 4000000 in
/-- linkworklaw12.awake -/
theorem l_awake (w : World)  :
    Calls Tryz.prog 5 #[] w (RetV w (.bool true)) := by
  go_enter Tryz.func5, Tryz.ntmps5
  go_wp2_with fail
  (with_reducible refine (l_part _ (1) (2) (by decide) (by decide) (by decide) (by decide) (Rat.divInt 1 2) 1 ?_ ?_ ?_).mono ?_); (decide); (rfl); (exact sz_dec (by kernel_rfl)); rintro e w1 ⟨b1, A1, n1, c1, A'1, n'1, c'1, rfl, h1, hb1⟩
  have q1 : Below w.heap.size w w1 := hb1
  have bw1 : Below w.heap.size w w1 := (brefl w).trans (q1.mono (brefl w).size)
  have lw1 : w.heap.size ≤ w1.heap.size := q1.size
  clear hb1 q1
  go_wp2_with fail
  have hF1 := TV.frac h1
  (with_reducible refine (t_cos _ b1 A1 n1 c1 A'1 n'1 c'1 false (⟨(Rat.divInt 1 2), false⟩) (1) ?_ ?_ ?_).mono ?_); (exact hF1.tk); (first | omega | decide | assumption); (first | omega | decide | assumption); rintro e w2 ⟨b2, A2, n2, c2, A'2, n'2, c'2, rfl, h2, hb2⟩
  have q2 : Below w1.heap.size w1 w2 := hb2
  replace h1 := h1.belw q2
  replace hF1 := hF1.belw q2
  have bw2 : Below w.heap.size w w2 := bw1.trans (q2.mono bw1.size)
  have lw2 : w1.heap.size ≤ w2.heap.size := q2.size
  clear hb2 q2 bw1
  go_wp2_with fail
  (with_reducible refine (l_part _ (1) (2) (by decide) (by decide) (by decide) (by decide) (Rat.divInt 1 2) 1 ?_ ?_ ?_).mono ?_); (decide); (rfl); (exact sz_dec (by kernel_rfl)); rintro e w3 ⟨b3, A3, n3, c3, A'3, n'3, c'3, rfl, h3, hb3⟩
  have q3 : Below w2.heap.size w2 w3 := ((Below.refl _ _).alloc (Nat.le_refl _) _).trans (hb3.mono (by simp))
  replace h1 := h1.belw q3
  replace hF1 := hF1.belw q3
  replace h2 := h2.belw q3
  have x3_0 : Blk w3 (w2.heap.size) 24 #[.bool b2, .slice A2 n2 c2, .slice A'2 n'2 c'2] := (blkAt _ _ _ (by simp)).below hb3 (by simp)
  have bw3 : Below w.heap.size w w3 := bw2.trans (q3.mono bw2.size)
  have lw3 : w2.heap.size + 1 ≤ w3.heap.size := by have := hb3.size; simp at this; omega
  clear hb3 q3 bw2
  go_wp2_with fail
  have hF2 := TV.frac h3
  (with_reducible refine (t_sin _ b3 A3 n3 c3 A'3 n'3 c'3 false (⟨(Rat.divInt 1 2), false⟩) (1) ?_ ?_ ?_).mono ?_); (exact hF2.tk); (first | omega | decide | assumption); (first | omega | decide | assumption); rintro e w4 ⟨b4, A4, n4, c4, A'4, n'4, c'4, rfl, h4, hb4⟩
  have q4 : Below w3.heap.size w3 w4 := hb4
  replace h1 := h1.belw q4
  replace hF1 := hF1.belw q4
  replace h2 := h2.belw q4
  replace h3 := h3.belw q4
  replace hF2 := hF2.belw q4
  replace x3_0 := x3_0.below q4 x3_0.lt
  have bw4 : Below w.heap.size w w4 := bw3.trans (q4.mono bw3.size)
  have lw4 : w3.heap.size ≤ w4.heap.size := q4.size
  clear hb4 q4 bw3
  go_wp2_with fail
  (with_reducible refine (l_part _ (1) (1) (by decide) (by decide) (by decide) (by decide) (Rat.divInt 1 1) 1 ?_ ?_ ?_).mono ?_); (decide); (rfl); (exact sz_dec (by kernel_rfl)); rintro e w5 ⟨b5, A5, n5, c5, A'5, n'5, c'5, rfl, h5, hb5⟩
  have q5 : Below w4.heap.size w4 w5 := ((Below.refl _ _).alloc (Nat.le_refl _) _).trans (hb5.mono (by simp))
  replace h1 := h1.belw q5
  replace hF1 := hF1.belw q5
  replace h2 := h2.belw q5
  replace h3 := h3.belw q5
  replace hF2 := hF2.belw q5
  replace h4 := h4.belw q5
  replace x3_0 := x3_0.below q5 x3_0.lt
  have x5_0 : Blk w5 (w4.heap.size) 24 #[.bool b4, .slice A4 n4 c4, .slice A'4 n'4 c'4] := (blkAt _ _ _ (by simp)).below hb5 (by simp)
  have bw5 : Below w.heap.size w w5 := bw4.trans (q5.mono bw4.size)
  have lw5 : w4.heap.size + 1 ≤ w5.heap.size := by have := hb5.size; simp at this; omega
  clear hb5 q5 bw4
  go_wp2_with fail
  have hF3 := TV.frac h5
  (with_reducible refine (l_part _ (1) (1) (by decide) (by decide) (by decide) (by decide) (Rat.divInt 1 1) 1 ?_ ?_ ?_).mono ?_); (decide); (rfl); (exact sz_dec (by kernel_rfl)); rintro e w6 ⟨b6, A6, n6, c6, A'6, n'6, c'6, rfl, h6, hb6⟩
  have q6 : Below w5.heap.size w5 w6 := hb6
  replace h1 := h1.belw q6
  replace hF1 := hF1.belw q6
  replace h2 := h2.belw q6
  replace h3 := h3.belw q6
  replace hF2 := hF2.belw q6
  replace h4 := h4.belw q6
  replace h5 := h5.belw q6
  replace hF3 := hF3.belw q6
  replace x3_0 := x3_0.below q6 x3_0.lt
  replace x5_0 := x5_0.below q6 x5_0.lt
  have bw6 : Below w.heap.size w w6 := bw5.trans (q6.mono bw5.size)
  have lw6 : w5.heap.size ≤ w6.heap.size := q6.size
  clear hb6 q6 bw5
  go_wp2_with fail
  have hF4 := TV.frac h6
  (with_reducible refine (t_Add _ b5 A5 n5 c5 A'5 n'5 c'5 false (⟨(Rat.divInt 1 1), false⟩) (1) ?_ b6 A6 n6 c6 A'6 n'6 c'6 false (⟨(Rat.divInt 1 1), false⟩) (1) ?_ ?_ ?_ ?_ ?_).mono ?_); (exact hF3.tk); (exact hF4.tk); (first | omega | decide | assumption); (first | omega | decide | assumption); (first | omega | decide | assumption); (first | omega | decide | assumption); rintro e w7 ⟨b7, A7, n7, c7, A'7, n'7, c'7, x7, rfl, h7, hb7⟩
  have q7 : Below w6.heap.size w6 w7 := hb7
  replace h1 := h1.belw q7
  replace hF1 := hF1.belw q7
  replace h2 := h2.belw q7
  replace h3 := h3.belw q7
  replace hF2 := hF2.belw q7
  replace h4 := h4.belw q7
  replace h5 := h5.belw q7
  replace hF3 := hF3.belw q7
  replace h6 := h6.belw q7
  replace hF4 := hF4.belw q7
  replace x3_0 := x3_0.below q7 x3_0.lt
  replace x5_0 := x5_0.below q7 x5_0.lt
  have bw7 : Below w.heap.size w w7 := bw6.trans (q7.mono bw6.size)
  have lw7 : w6.heap.size ≤ w7.heap.size := q7.size
  clear hb7 q7 bw6
  go_wp2_with fail
  obtain rfl : x7 = true := h7.2.1.trans aw_half
  rw [aw_cos] at h2
  rw [aw_sin] at h4
  have p8 : Kp w7 (w7.alloc (.cells #[.bool b7, .slice A7 n7 c7, .slice A'7 n'7 c'7, .bool true] 26)) := ((Kp.refl w7).alloc (.cells #[.bool b7, .slice A7 n7 c7, .slice A'7 n'7 c'7, .bool true] 26))
  have bw8 : Below w.heap.size w (w7.alloc (.cells #[.bool b7, .slice A7 n7 c7, .slice A'7 n'7 c'7, .bool true] 26)) := (bw7.alloc (by first | omega | (simp <;> omega)) (.cells #[.bool b7, .slice A7 n7 c7, .slice A'7 n'7 c'7, .bool true] 26))
  have x8_0 : Blk (w7.alloc (.cells #[.bool b7, .slice A7 n7 c7, .slice A'7 n'7 c'7, .bool true] 26)) (w7.heap.size) 26 #[.bool b7, .slice A7 n7 c7, .slice A'7 n'7 c'7, .bool true] := (blkAt _ _ _ (by simp))
  replace x3_0 : Blk (w7.alloc (.cells #[.bool b7, .slice A7 n7 c7, .slice A'7 n'7 c'7, .bool true] 26)) (w2.heap.size) 24 #[.bool b2, .slice A2 n2 c2, .slice A'2 n'2 c'2] := (x3_0.alloc (.cells #[.bool b7, .slice A7 n7 c7, .slice A'7 n'7 c'7, .bool true] 26))
  replace x5_0 : Blk (w7.alloc (.cells #[.bool b7, .slice A7 n7 c7, .slice A'7 n'7 c'7, .bool true] 26)) (w4.heap.size) 24 #[.bool b4, .slice A4 n4 c4, .slice A'4 n'4 c'4] := (x5_0.alloc (.cells #[.bool b7, .slice A7 n7 c7, .slice A'7 n'7 c'7, .bool true] 26))
  have lw8 : w7.heap.size + 1 ≤ (w7.alloc (.cells #[.bool b7, .slice A7 n7 c7, .slice A'7 n'7 c'7, .bool true] 26)).heap.size := by simp
  generalize hE8 : (w7.alloc (.cells #[.bool b7, .slice A7 n7 c7, .slice A'7 n'7 c'7, .bool true] 26)) = w8 at p8 bw8 lw8 x8_0 x3_0 x5_0 ⊢
  clear hE8
  replace h1 := h1.keep p8
  replace hF1 := hF1.keep p8
  replace h2 := h2.keep p8
  replace h3 := h3.keep p8
  replace hF2 := hF2.keep p8
  replace h4 := h4.keep p8
  replace h5 := h5.keep p8
  replace hF3 := hF3.keep p8
  replace h6 := h6.keep p8
  replace hF4 := hF4.keep p8
  replace h7 := h7.keep p8
  clear bw7
  have cx3_0_0 : w8.cell? ⟨w2.heap.size, 0, none⟩ = some (.bool b2) := x3_0.cell 0
  have cx3_0_1 : w8.cell? ⟨w2.heap.size, 1, none⟩ = some (.slice A2 n2 c2) := x3_0.cell 1
  have cx3_0_2 : w8.cell? ⟨w2.heap.size, 2, none⟩ = some (.slice A'2 n'2 c'2) := x3_0.cell 2
  obtain ⟨lx3_0_0, lx3_0_1, lx3_0_2, lx3_0_3⟩ := lts0 x3_0.lt
  have cx5_0_0 : w8.cell? ⟨w4.heap.size, 0, none⟩ = some (.bool b4) := x5_0.cell 0
  have cx5_0_1 : w8.cell? ⟨w4.heap.size, 1, none⟩ = some (.slice A4 n4 c4) := x5_0.cell 1
  have cx5_0_2 : w8.cell? ⟨w4.heap.size, 2, none⟩ = some (.slice A'4 n'4 c'4) := x5_0.cell 2
  obtain ⟨lx5_0_0, lx5_0_1, lx5_0_2, lx5_0_3⟩ := lts0 x5_0.lt
  obtain ⟨cx8_0_0, cx8_0_1, cx8_0_2, cx8_0_3⟩ := x8_0.c4
  obtain ⟨lx8_0_0, lx8_0_1, lx8_0_2, lx8_0_3⟩ := lts0 x8_0.lt
  go_region_held3 (fun w' => Sees w8.heap.size w8 w') (first | with_reducible exact Sees.of (Nat.le_refl _) (by assumption) | with_reducible exact Sees.of (Nat.le_refl _) (brefl _).drew | exact Sees.of (Nat.le_refl _) (below_drewN (brefl _) 1) | exact Sees.of (Nat.le_refl _) (below_drewN (by assumption) _))
    (first
      | (go_at_call 22; (with_reducible refine (l_part _ (3) (5) (by decide) (by decide) (by decide) (by decide) (Rat.divInt 3 5) 1 ?_ ?_ ?_).mono ?_); (decide); (rfl); (exact sz_dec (by kernel_rfl)); rintro e w9 ⟨b9, A9, n9, c9, A'9, n'9, c'9, rfl, h9, hb9⟩; replace hb9 := bnext (below_drewN (brefl _) 1) hb9; have q9 : Below w8.heap.size w8 w9 := bnext (brefl w8) hb9; replace h1 := h1.belw hb9; replace hF1 := hF1.belw hb9; replace h2 := h2.belw hb9; replace h3 := h3.belw hb9; replace hF2 := hF2.belw hb9; replace h4 := h4.belw hb9; replace h5 := h5.belw hb9; replace hF3 := hF3.belw hb9; replace h6 := h6.belw hb9; replace hF4 := hF4.belw hb9; replace h7 := h7.belw hb9)
      | (go_at_call 24; (with_reducible refine (b_rat_e _ b2 A2 n2 c2 A'2 n'2 c'2 ((Rat.divInt 3 5)) (4 * (1) + 4) ?_ b9 A9 n9 c9 A'9 n'9 c'9 ((Rat.divInt 3 5)) (1) ?_  ?_ ?_).mono ?_); (exact h2); (exact h9); (rfl); (decide); rintro e w10 ⟨rfl, hb10⟩; have q10 : Below w8.heap.size w8 w10 := bnext q9 hb10; replace h1 := h1.belw hb10; replace hF1 := hF1.belw hb10; replace h2 := h2.belw hb10; replace h3 := h3.belw hb10; replace hF2 := hF2.belw hb10; replace h4 := h4.belw hb10; replace h5 := h5.belw hb10; replace hF3 := hF3.belw hb10; replace h6 := h6.belw hb10; replace hF4 := hF4.belw hb10; replace h7 := h7.belw hb10; replace h9 := h9.belw hb10)
      | (go_at_call 22; (with_reducible refine (l_part _ (4) (5) (by decide) (by decide) (by decide) (by decide) (Rat.divInt 4 5) 1 ?_ ?_ ?_).mono ?_); (decide); (rfl); (exact sz_dec (by kernel_rfl)); rintro e w11 ⟨b11, A11, n11, c11, A'11, n'11, c'11, rfl, h11, hb11⟩; have q11 : Below w8.heap.size w8 w11 := bnext q10 hb11; replace h1 := h1.belw hb11; replace hF1 := hF1.belw hb11; replace h2 := h2.belw hb11; replace h3 := h3.belw hb11; replace hF2 := hF2.belw hb11; replace h4 := h4.belw hb11; replace h5 := h5.belw hb11; replace hF3 := hF3.belw hb11; replace h6 := h6.belw hb11; replace hF4 := hF4.belw hb11; replace h7 := h7.belw hb11; replace h9 := h9.belw hb11)
      | (go_at_call 24; (with_reducible refine (b_rat_e _ b4 A4 n4 c4 A'4 n'4 c'4 ((Rat.divInt 4 5)) (4 * (1) + 4) ?_ b11 A11 n11 c11 A'11 n'11 c'11 ((Rat.divInt 4 5)) (1) ?_  ?_ ?_).mono ?_); (exact h4); (exact h11); (rfl); (decide); rintro e w12 ⟨rfl, hb12⟩; have q12 : Below w8.heap.size w8 w12 := bnext q11 hb12; replace h1 := h1.belw hb12; replace hF1 := hF1.belw hb12; replace h2 := h2.belw hb12; replace h3 := h3.belw hb12; replace hF2 := hF2.belw hb12; replace h4 := h4.belw hb12; replace h5 := h5.belw hb12; replace hF3 := hF3.belw hb12; replace h6 := h6.belw hb12; replace hF4 := hF4.belw hb12; replace h7 := h7.belw hb12; replace h9 := h9.belw hb12; replace h11 := h11.belw hb12))
  have bw12 : Below w.heap.size w w12 := bw8.trans (q12.mono bw8.size)
  clear cx3_0_0 cx3_0_1 cx3_0_2 lx3_0_0 lx3_0_1 lx3_0_2 lx3_0_3 cx5_0_0 cx5_0_1 cx5_0_2 lx5_0_0 lx5_0_1 lx5_0_2 lx5_0_3 cx8_0_0 cx8_0_1 cx8_0_2 cx8_0_3 lx8_0_0 lx8_0_1 lx8_0_2 lx8_0_3
  replace x3_0 := x3_0.below q12 x3_0.lt
  replace x5_0 := x5_0.below q12 x5_0.lt
  replace x8_0 := x8_0.below q12 x8_0.lt
  have lw12 : w8.heap.size ≤ w12.heap.size := q12.size
  go_wp2_with fail
  go_ret
  exact retB rfl bw12
end Go.Proofs.YtmneloabphplmaaGreat

/- The laws: rows of fractions and of turns. -/
namespace Go.Proofs.YtmneloabphplmaaGreat
open Go Go.RowKit Bn
attribute [local go_sem ↓] Go.wp_at_zero Go.wp_at_succ
theorem cmpI_refl (x : Int) : cmpI x x = 0 := by unfold cmpI; simp
theorem f_cmp_eq (w : World) (b : Bool) (A : Option Addr) (n c : Nat) (D : Option Addr) (m e : Nat) (q : Rat) (k : Nat) (h : QZ w b A n c D m e q k) (b' : Bool) (A' : Option Addr) (n' c' : Nat) (D' : Option Addr) (m' e' : Nat) (q' : Rat) (k' : Nat) (h' : QZ w b' A' n' c' D' m' e' q' k') (he : q = q') (h0 : 0 < k) (hk : k ≤ 40000000) (h0' : 0 < k') (hk' : k' ≤ 40000000) : Calls Tryz.prog 54 #[.agg #[.bool b, .slice A n c, .slice D m e], .agg #[.bool b', .slice A' n' c', .slice D' m' e']] w (RetV w (.int .i64 0)) := by
  subst he
  have h1 := f_cmp w b A n c D m e q k h b' A' n' c' D' m' e' q k' h' h0 hk h0' hk'
  rw [cmpI_refl] at h1
  exact h1
theorem rs4 {w : World} {g : Nat} {T : TypeId} {b : Bool} {A : Option Addr} {n c : Nat} {D : Option Addr} {m e : Nat} {b1 : Bool} {A1 : Option Addr} {n1 c1 : Nat} {D1 : Option Addr} {m1 e1 : Nat} {b2 : Bool} {A2 : Option Addr} {n2 c2 : Nat} {D2 : Option Addr} {m2 e2 : Nat} {b3 : Bool} {A3 : Option Addr} {n3 c3 : Nat} {D3 : Option Addr} {m3 e3 : Nat}
    (hb : Blk w g T #[.bool b, .slice A n c, .slice D m e, .bool b1, .slice A1 n1 c1, .slice D1 m1 e1, .bool b2, .slice A2 n2 c2, .slice D2 m2 e2, .bool b3, .slice A3 n3 c3, .slice D3 m3 e3]) : Rs w g 4 (fun i : Nat => if i = 0 then n else if i = 1 then n1 else if i = 2 then n2 else n3) (fun i : Nat => if i = 0 then m else if i = 1 then m1 else if i = 2 then m2 else m3) := by
  refine ⟨hb.lt, fun i hi => ?_⟩
  match i, hi with
  | 0, _ => exact ⟨_, _, _, _, _, hb.cell 0, hb.cell 1, hb.cell 2⟩
  | 1, _ => exact ⟨_, _, _, _, _, hb.cell 3, hb.cell 4, hb.cell 5⟩
  | 2, _ => exact ⟨_, _, _, _, _, hb.cell 6, hb.cell 7, hb.cell 8⟩
  | 3, _ => exact ⟨_, _, _, _, _, hb.cell 9, hb.cell 10, hb.cell 11⟩
theorem rs3 {w : World} {g : Nat} {T : TypeId} {b : Bool} {A : Option Addr} {n c : Nat} {D : Option Addr} {m e : Nat} {b1 : Bool} {A1 : Option Addr} {n1 c1 : Nat} {D1 : Option Addr} {m1 e1 : Nat} {b2 : Bool} {A2 : Option Addr} {n2 c2 : Nat} {D2 : Option Addr} {m2 e2 : Nat}
    (hb : Blk w g T #[.bool b, .slice A n c, .slice D m e, .bool b1, .slice A1 n1 c1, .slice D1 m1 e1, .bool b2, .slice A2 n2 c2, .slice D2 m2 e2]) : Rs w g 3 (fun i : Nat => if i = 0 then n else if i = 1 then n1 else n2) (fun i : Nat => if i = 0 then m else if i = 1 then m1 else m2) := by
  refine ⟨hb.lt, fun i hi => ?_⟩
  match i, hi with
  | 0, _ => exact ⟨_, _, _, _, _, hb.cell 0, hb.cell 1, hb.cell 2⟩
  | 1, _ => exact ⟨_, _, _, _, _, hb.cell 3, hb.cell 4, hb.cell 5⟩
  | 2, _ => exact ⟨_, _, _, _, _, hb.cell 6, hb.cell 7, hb.cell 8⟩
theorem gs2 {w : World} {g k : Nat} {T : TypeId} {b : Bool} {A : Option Addr} {n c : Nat} {D : Option Addr} {m e : Nat} {x : Bool} {r : RD} {b1 : Bool} {A1 : Option Addr} {n1 c1 : Nat} {D1 : Option Addr} {m1 e1 : Nat} {x1 : Bool} {r1 : RD}
    (hb : Blk w g T #[.bool b, .slice A n c, .slice D m e, .bool x, .bool b1, .slice A1 n1 c1, .slice D1 m1 e1, .bool x1]) (h : QD w b A n c D m e r k) (h1 : QD w b1 A1 n1 c1 D1 m1 e1 r1 k) : Gs w g 2 k (fun i : Nat => if i = 0 then r else r1) (fun i : Nat => if i = 0 then x else x1) := by
  refine ⟨hb.lt, fun i hi => ?_⟩
  match i, hi with
  | 0, _ => exact ⟨_, _, _, _, _, _, _, hb.cell 0, hb.cell 1, hb.cell 2, hb.cell 3, h⟩
  | 1, _ => exact ⟨_, _, _, _, _, _, _, hb.cell 4, hb.cell 5, hb.cell 6, hb.cell 7, h1⟩
theorem gs3 {w : World} {g k : Nat} {T : TypeId} {b : Bool} {A : Option Addr} {n c : Nat} {D : Option Addr} {m e : Nat} {x : Bool} {r : RD} {b1 : Bool} {A1 : Option Addr} {n1 c1 : Nat} {D1 : Option Addr} {m1 e1 : Nat} {x1 : Bool} {r1 : RD} {b2 : Bool} {A2 : Option Addr} {n2 c2 : Nat} {D2 : Option Addr} {m2 e2 : Nat} {x2 : Bool} {r2 : RD}
    (hb : Blk w g T #[.bool b, .slice A n c, .slice D m e, .bool x, .bool b1, .slice A1 n1 c1, .slice D1 m1 e1, .bool x1, .bool b2, .slice A2 n2 c2, .slice D2 m2 e2, .bool x2]) (h : QD w b A n c D m e r k) (h1 : QD w b1 A1 n1 c1 D1 m1 e1 r1 k) (h2 : QD w b2 A2 n2 c2 D2 m2 e2 r2 k) : Gs w g 3 k (fun i : Nat => if i = 0 then r else if i = 1 then r1 else r2) (fun i : Nat => if i = 0 then x else if i = 1 then x1 else x2) := by
  refine ⟨hb.lt, fun i hi => ?_⟩
  match i, hi with
  | 0, _ => exact ⟨_, _, _, _, _, _, _, hb.cell 0, hb.cell 1, hb.cell 2, hb.cell 3, h⟩
  | 1, _ => exact ⟨_, _, _, _, _, _, _, hb.cell 4, hb.cell 5, hb.cell 6, hb.cell 7, h1⟩
  | 2, _ => exact ⟨_, _, _, _, _, _, _, hb.cell 8, hb.cell 9, hb.cell 10, hb.cell 11, h2⟩
theorem QD.short {w : World} {b : Bool} {A D : Option Addr} {n c m e k : Nat} {r : RD} (h : QD w b A n c D m e r k) (hs : n ≤ 6 ∧ m ≤ 6) : QD w b A n c D m e r 6 := ⟨h.1, h.2.1, h.2.2.1, hs.1, hs.2⟩
end Go.Proofs.YtmneloabphplmaaGreat

/- The arguments of a row opened: fractions, turns and places that came in read as lists of words. -/
namespace Go.Proofs.YtmneloabphplmaaGreat
open Go Go.RowKit Bn Go.ChangeShapes Go.WideShapes

/-- All arguments read behind the call as they did. -/
theorem args_again {H : Type} {enc : TypeId × Value → H} {W : World} {P : Program} (hl : laidOutB P = true) {W' : World} (hb : Below W.heap.size W W') : ∀ {ts : List TypeId} {vs : List Value} {ds : List (DataW H)} {ps : List MemPlace}, (ts.all fun t => P.readableRec t && decide (t < P.types.size)) = true →
    DataW.TrodAll enc P W 0 (fun _ => true) true ts vs ds ps → DataW.TrodAll enc P W' 0 (fun b => decide (b < W.heap.size)) true ts vs ds ps
  | [], [], [], _, _, h => h
  | _ :: _, _ :: _, _ :: _, _, hr, h => by
    have hlt := h.lt
    obtain ⟨p, q, h1, h2, e⟩ := h
    rw [List.all_cons, Bool.and_eq_true, Bool.and_eq_true, decide_eq_true_eq] at hr
    exact ⟨p, q, Below.trod hl hr.1.1 hr.1.2 h1 hb (fun x hx => hlt x (by rw [e]; exact List.mem_append_left _ hx)), args_again hl hb hr.2 h2, e⟩
  | [], [], _ :: _, _, _, h => h.elim
  | [], _ :: _, _, _, _, h => h.elim
  | _ :: _, [], _, _, _, h => h.elim
  | _ :: _, _ :: _, [], _, _, h => h.elim
/-- A law that returns true and turns nothing that was there. -/
theorem law_post {H : Type} {enc : TypeId × Value → H} {W : World} {P : Program} {B : TypeId} {f : Func} {s : ChangeSpec} {W' : World} {args : Array Value} {ds : List (DataW H)} {before : List MemPlace} (hl : laidOutB P = true) (hB : P.underlying B = some .bool)
    (hW : DataW.Whole enc P f.params.toList s.vars false W args.toList ds [] before) (hv : s.vars = []) (hr : f.resultTypes = #[B]) (hp : (f.params.toList.all fun t => P.readableRec t && decide (t < P.types.size)) = true)
    (hres : (s.fn H (ds ++ [])).results = [.lit (.bool true)]) (hargs : (s.fn H (ds ++ [])).args = ds) (hvars : (s.fn H (ds ++ [])).vars = []) (hb : Below W.heap.size W W') :
    s.post enc P f false true false false W args (.bool true) W' := by
  have hW' := hW
  obtain ⟨p, q, hA, hV, rfl, _, _⟩ := hW
  have hV' := hV
  rw [hv] at hV'
  obtain ⟨_, rfl⟩ := trodVars_none hV'
  refine ⟨ds, [], _, [], p, [], hW', ?_, ?_, ?_, hb.frame _, fun h => by cases h⟩
  · rw [hr, hres]
    exact trodAll_mk1 (shut_bool hB _)
  · rw [hargs]
    exact args_again hl hb hp hA
  · rw [hv, hvars]
    rfl
/-- Nothing in a type's layout fits. -/
def bareB (p : Program) (fits : TypeId → Bool) : Nat → TypeId → Bool
  | 0, _ => true
  | d + 1, e => !fits e && match p.underlying e with
    | some (.struct fs) => fs.all fun f => bareB p fits d f.type
    | some (.array _ e') => bareB p fits d e'
    | _ => true
theorem rowAt_bare {p : Program} {fits : TypeId → Bool} : ∀ (d : Nat) (e : TypeId) (count off n : Nat), bareB p fits d e = true → rowAt p fits d e count off n = false := by
  intro d
  induction d with
  | zero => intro e count off n _; rfl
  | succ d ih =>
    intro e count off n h
    unfold bareB at h
    rw [Bool.and_eq_true] at h
    obtain ⟨h1, h2⟩ := h
    have h1 : fits e = false := by simpa using h1
    unfold rowAt
    dsimp only
    split
    · rfl
    · rw [h1, Bool.and_false, Bool.false_or]
      split at h2
      · rename_i fs hu
        rw [hu]
        dsimp only
        have : (fs.any fun f => decide (f.offset ≤ off % p.cellsOf e) && decide (off % p.cellsOf e < f.offset + p.cellsOf f.type) && rowAt p fits d f.type 1 (off % p.cellsOf e - f.offset) n) = false := by
          rw [Array.any_eq_false]
          intro i hi
          have := Array.all_eq_true.1 h2 i hi
          rw [ih _ _ _ _ this]; simp
        rw [this]; simp
      · rename_i m e' hu
        rw [hu]
        dsimp only
        rw [ih _ _ _ _ h2]; simp
      · rename_i hn1 hn2
        split
        · rename_i fs hu; exact absurd hu (hn1 _)
        · rename_i m e' hu; exact absurd hu (hn2 _ _)
        · simp
theorem lies_u32 {e : TypeId} {count off n : Nat} (h : bareB Tryz.prog (sameLayout Tryz.prog Tryz.prog.depth · 89) Tryz.prog.depth e = true) : liesAt Tryz.prog Tryz.prog.depth e count off 89 n = false := by
  have : ∀ d, liesAt Tryz.prog d e count off 89 n = false := by
    intro d
    cases d with
    | zero => rfl
    | succ d =>
      unfold liesAt
      rw [rowAt_bare _ _ _ _ _ h, Tryz.underlying89]
      rfl
  exact this _
theorem bare_whole : bareB Tryz.prog (sameLayout Tryz.prog Tryz.prog.depth · 89) Tryz.prog.depth 77 = true := by kernel_rfl
theorem bare_rat : bareB Tryz.prog (sameLayout Tryz.prog Tryz.prog.depth · 89) Tryz.prog.depth 24 = true := by kernel_rfl
theorem bare_turn : bareB Tryz.prog (sameLayout Tryz.prog Tryz.prog.depth · 89) Tryz.prog.depth 26 = true := by kernel_rfl
theorem bare_place : bareB Tryz.prog (sameLayout Tryz.prog Tryz.prog.depth · 89) Tryz.prog.depth 38 = true := by kernel_rfl
theorem kt_of_lies {e : TypeId} {count off n : Nat} (h : liesAt Tryz.prog Tryz.prog.depth e count off 89 n = true) : KT e = true := by
  unfold KT
  by_cases h1 : e = 77
  · subst h1; rw [lies_u32 bare_whole] at h; cases h
  by_cases h2 : e = 24
  · subst h2; rw [lies_u32 bare_rat] at h; cases h
  by_cases h3 : e = 26
  · subst h3; rw [lies_u32 bare_turn] at h; cases h
  by_cases h4 : e = 38
  · subst h4; rw [lies_u32 bare_place] at h; cases h
  simp [h1, h2, h3, h4]
section
variable {H : Type} {enc : TypeId × Value → H} {W : World} {base : Nat}
set_option maxRecDepth 100000 in
theorem words_open {v : Value} {fuel : Nat} {x : DataW H × List MemPlace} (hok : Cell.okWide Tryz.prog W .any base 22 v) (ht : DataW.trod enc Tryz.prog W 0 (fun _ => true) true fuel 22 [v] = some x) :
    ∃ A n c l, v = .slice A n c ∧ Wd W A n c l := by
  rcases open_ints Tryz.underlying22 Tryz.underlying89 (by kernel_rfl) ht with ⟨hv, _⟩ | ⟨a, len, cap, zs, hv, _, hl, _, hz, _, hc, hwf⟩
  · injection hv with hv _
    exact ⟨none, 0, 0, [], hv, Wd.nil_ W⟩
  · injection hv with hv _
    subst hv
    have hz : zs.length = cap := by simpa using hz
    have h0 : ∀ i, i < zs.length → 0 ≤ zs.getD i 0 ∧ zs.getD i 0 ≤ 4294967295 := by
      intro i hi
      have h1 := hwf (zs.getD i 0) (by rw [List.getD_eq_getElem?_getD, List.getElem?_eq_getElem hi]; simp)
      simpa [Lit.wf, IntKind.min, IntKind.max, IntKind.signed, IntKind.bits] using h1
    refine ⟨some a, len, cap, (zs.take len).map Int.toNat, rfl, ?_, ?_, hl, fun hn => ?_⟩
    · intro y hy
      obtain ⟨z, hz1, rfl⟩ := List.mem_map.1 hy
      obtain ⟨i, hi, he⟩ := List.getElem_of_mem hz1
      have hi2 : i < zs.length := by rw [List.length_take] at hi; omega
      have h1 := h0 i hi2
      rw [List.getD_eq_getElem?_getD, List.getElem?_eq_getElem hi2] at h1
      rw [List.getElem_take] at he
      simp only [Option.getD_some] at h1
      rw [he] at h1
      omega
    · rw [List.length_map, List.length_take]; omega
    · unfold Cell.okWide at hok
      rw [Tryz.underlying22] at hok
      unfold Cell.ok at hok
      rw [Tryz.underlying22] at hok
      obtain ⟨_, _, _, hs, row, cells, hsh, hli⟩ := hok
      unfold World.shape? at hsh
      split at hsh
      · rename_i cur el fr hb
        injection hsh with hsh; injection hsh with e1 e2
        subst e1
        obtain ⟨g, o, sp⟩ := a
        dsimp only at hs
        subst hs
        have hr : RowW W g cur fr := ⟨el, kt_of_lies hli, hb⟩
        refine ⟨g, o, cur, fr, rfl, hr, fun i hi => ?_⟩
        have h1 := hc i (by omega)
        have h2 := h0 i (by omega)
        have e3 : (⟨g, o, none⟩ : Addr).add i = ⟨g, o + i, none⟩ := by unfold Addr.add; by_cases hi0 : i = 0 <;> simp [hi0]
        rw [e3, hr.cell] at h1
        rw [h1]
        have e4 : wd ((zs.take len).map Int.toNat) i = (zs.getD i 0).toNat := by
          unfold wd
          rw [List.getD_eq_getElem?_getD, List.getElem?_map, List.getElem?_take, if_pos hi, List.getD_eq_getElem?_getD]
          rcases zs[i]? with _ | z <;> rfl
        rw [e4, Int.toNat_of_nonneg h2.1]
      · cases hsh
set_option maxRecDepth 100000 in
theorem rat_open {v0 v1 v2 : Value} {fuel : Nat} {x : DataW H × List MemPlace} (o1 : Cell.okWide Tryz.prog W .any base 22 v1) (o2 : Cell.okWide Tryz.prog W .any base 22 v2)
    (ht : DataW.trod enc Tryz.prog W 0 (fun _ => true) true fuel 24 [v0, v1, v2] = some x) :
    ∃ b A n c D m e r k, v0 = .bool b ∧ v1 = .slice A n c ∧ v2 = .slice D m e ∧ QD W b A n c D m e r k := by
  obtain ⟨xs, n, _, _, _, hxl, hf⟩ := DataW.trod_struct Tryz.underlying24 ht
  have f0 : DataW.trod enc Tryz.prog W 0 (fun _ => true) true n 4 (List.take (Tryz.prog.cellsOf 4) [v0, v1, v2]) = xs[0]? := hf 0 _ rfl
  have f1 : DataW.trod enc Tryz.prog W 0 (fun _ => true) true n 22 (List.take (Tryz.prog.cellsOf 22) [v1, v2]) = xs[1]? := hf 1 _ rfl
  have f2 : DataW.trod enc Tryz.prog W 0 (fun _ => true) true n 22 (List.take (Tryz.prog.cellsOf 22) [v2]) = xs[2]? := hf 2 _ rfl
  have c1 : Tryz.prog.cellsOf 22 = 1 := by kernel_rfl
  have c0 : Tryz.prog.cellsOf 4 = 1 := by kernel_rfl
  try dsimp only at f0 f1 f2
  rw [c0] at f0
  rw [c1] at f1 f2
  have hx0 : xs.length = 3 := hxl
  rw [List.getElem?_eq_getElem (show 0 < xs.length by omega)] at f0
  rw [List.getElem?_eq_getElem (show 1 < xs.length by omega)] at f1
  rw [List.getElem?_eq_getElem (show 2 < xs.length by omega)] at f2
  obtain ⟨b, hb, _⟩ := DataW.trod_bool Tryz.underlying4 f0
  obtain ⟨A, n1, cc, l, rfl, h1⟩ := words_open o1 f1
  obtain ⟨D, m, e, l', rfl, h2⟩ := words_open o2 f2
  injection hb with hb _
  exact ⟨b, A, n1, cc, D, m, e, ⟨b, l, l'⟩, max n1 m, hb, rfl, rfl, rfl, h1, h2, Nat.le_max_left _ _, Nat.le_max_right _ _⟩
set_option maxRecDepth 100000 in
/-- The cells' types of a struct that came in. -/
theorem cells_ok {t : TypeId} {fs : Array Field} {ts : List TypeId} {v : Value} (hu : Tryz.prog.underlying t = some (.struct fs)) (hts : Tryz.prog.cellTypes Tryz.prog.depth t = some ts) (hn : Tryz.prog.cellsOf t = ts.length) (h : Value.okWide Tryz.prog W .any base t v) :
    ∃ cs : Array Value, v = .agg cs ∧ cs.size = ts.length ∧ ∀ (i : Nat) (v : Value) (u : TypeId), cs[i]? = some v → ts[i]? = some u → Cell.okWide Tryz.prog W .any base u v := by
  unfold Value.okWide at h
  rw [hu] at h
  obtain ⟨cs, rfl, hsz, ts', hts', _, hc⟩ := h
  rw [hts] at hts'
  injection hts' with e
  subst e
  rw [hn] at hsz
  refine ⟨cs, rfl, hsz, fun i v u hi hu => ?_⟩
  obtain ⟨u', h1, h2⟩ := hc i v hi
  have hlt : i < ts.length := by rw [← hsz]; exact (Array.getElem?_eq_some_iff.1 hi).1
  rw [Nat.mod_eq_of_lt hlt, hu] at h1
  injection h1 with h1
  subst h1
  exact h2
set_option maxRecDepth 100000 in
theorem turn_open {v : Value} {d : DataW H} {p : List MemPlace} (hok : Value.okWide Tryz.prog W .any base 26 v) (h : DataW.Trod enc Tryz.prog W 0 (fun _ => true) true 26 v d p) :
    ∃ b A n c D m e r k y, v = .agg #[.bool b, .slice A n c, .slice D m e, .bool y] ∧ QD W b A n c D m e r k := by
  obtain ⟨cs, rfl, hsz, hc⟩ := cells_ok (ts := [4, 22, 22, 4]) Tryz.underlying26 (by kernel_rfl) (by kernel_rfl) hok
  obtain ⟨fuel, h⟩ := h
  obtain ⟨l⟩ := cs
  match l, hsz with
  | [v0, v1, v2, v3], _ =>
    obtain ⟨xs, n, _, _, _, hxl, hf⟩ := DataW.trod_struct Tryz.underlying26 h
    have f0 : DataW.trod enc Tryz.prog W 0 (fun _ => true) true n 24 (List.take (Tryz.prog.cellsOf 24) [v0, v1, v2, v3]) = xs[0]? := hf 0 _ rfl
    have f1 : DataW.trod enc Tryz.prog W 0 (fun _ => true) true n 4 (List.take (Tryz.prog.cellsOf 4) [v3]) = xs[1]? := hf 1 _ rfl
    have c0 : Tryz.prog.cellsOf 24 = 3 := by kernel_rfl
    have c1 : Tryz.prog.cellsOf 4 = 1 := by kernel_rfl
    try dsimp only at f0 f1
    rw [c0] at f0
    rw [c1] at f1
    have hx0 : xs.length = 2 := hxl
    rw [List.getElem?_eq_getElem (show 0 < xs.length by omega)] at f0
    rw [List.getElem?_eq_getElem (show 1 < xs.length by omega)] at f1
    obtain ⟨y, hy, _⟩ := DataW.trod_bool Tryz.underlying4 f1
    injection hy with hy _
    have hy : v3 = .bool y := hy
    obtain ⟨b, A, n1, cc, D, m, e, r, k, rfl, rfl, rfl, hq⟩ := rat_open (hc 1 v1 _ rfl rfl) (hc 2 v2 _ rfl rfl) f0
    subst hy
    exact ⟨b, A, n1, cc, D, m, e, r, k, y, rfl, hq⟩
set_option maxRecDepth 100000 in
theorem place_open {v : Value} {d : DataW H} {p : List MemPlace} (hok : Value.okWide Tryz.prog W .any base 38 v) (h : DataW.Trod enc Tryz.prog W 0 (fun _ => true) true 38 v d p) :
    ∃ b A n c D m e r k b' A' n' c' D' m' e' r' k', v = .agg #[.bool b, .slice A n c, .slice D m e, .bool b', .slice A' n' c', .slice D' m' e'] ∧ QD W b A n c D m e r k ∧ QD W b' A' n' c' D' m' e' r' k' := by
  obtain ⟨cs, rfl, hsz, hc⟩ := cells_ok (ts := [4, 22, 22, 4, 22, 22]) Tryz.underlying38 (by kernel_rfl) (by kernel_rfl) hok
  obtain ⟨fuel, h⟩ := h
  obtain ⟨l⟩ := cs
  match l, hsz with
  | [v0, v1, v2, v3, v4, v5], _ =>
    obtain ⟨xs, n, _, _, _, hxl, hf⟩ := DataW.trod_struct Tryz.underlying38 h
    have f0 : DataW.trod enc Tryz.prog W 0 (fun _ => true) true n 24 (List.take (Tryz.prog.cellsOf 24) [v0, v1, v2, v3, v4, v5]) = xs[0]? := hf 0 _ rfl
    have f1 : DataW.trod enc Tryz.prog W 0 (fun _ => true) true n 24 (List.take (Tryz.prog.cellsOf 24) [v3, v4, v5]) = xs[1]? := hf 1 _ rfl
    have c0 : Tryz.prog.cellsOf 24 = 3 := by kernel_rfl
    try dsimp only at f0 f1
    rw [c0] at f0 f1
    have hx0 : xs.length = 2 := hxl
    rw [List.getElem?_eq_getElem (show 0 < xs.length by omega)] at f0
    rw [List.getElem?_eq_getElem (show 1 < xs.length by omega)] at f1
    obtain ⟨b, A, n1, cc, D, m, e, r, k, rfl, rfl, rfl, hq⟩ := rat_open (hc 1 v1 _ rfl rfl) (hc 2 v2 _ rfl rfl) f0
    obtain ⟨b', A', n1', cc', D', m', e', r', k', rfl, rfl, rfl, hq'⟩ := rat_open (hc 4 v4 _ rfl rfl) (hc 5 v5 _ rfl rfl) f1
    exact ⟨b, A, n1, cc, D, m, e, r, k, b', A', n1', cc', D', m', e', r', k', rfl, hq, hq'⟩
end
end Go.Proofs.YtmneloabphplmaaGreat
