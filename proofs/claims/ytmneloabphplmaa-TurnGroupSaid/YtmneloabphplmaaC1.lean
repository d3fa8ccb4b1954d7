/- TurnGroup: sums of turns do not depend on the order or on how they are grouped; a turn and its opposite give none; cosine and sine give the turn again; for every input the law returns true. No condition. -/
import Derived.Deep.RegionHeld3
import Derived.Deep.DrawnRows
import Derived.Test.YtmneloabphplmaaA5
set_option linter.unusedVariables false
/- Walks: the laws' own small functions: good. -/
namespace Go.Proofs.Ytmneloabphplmaa
open Go Go.RowKit Bn
attribute [local go_sem ↓] Go.wp_at_zero Go.wp_at_succ
def RetGd (w : World) (N : Nat) (rs : Nat → RD) (xs : Nat → Bool) (e : Ending) (w' : World) : Prop := ∃ r : Bool, e = .returned (.bool r) ∧ (r = true → ∀ i, i < N → accT (rs i) (xs i) = true) ∧ Below w.heap.size w w'
set_option maxRecDepth 100000 in
set_option maxHeartbeats 2000000 in
theorem l_good (w : World) (g N k : Nat) (rs : Nat → RD) (xs : Nat → Bool) (h : Gs w g N k rs xs) (hN : N ≤ 1000) (h0 : 0 < k) (hk : k ≤ 30000000) :
    Calls Try.prog 8 #[.slice (some ⟨g, 0, none⟩) N N] w (RetGd w N rs xs) := by
  go_enter Try.func8, Try.ntmps8
  go_wp2_with fail
  go_loopw [7] (fun iv wr => ∃ i : Nat, i ≤ N ∧ iv = .int .i64 (i : Nat) ∧ (∀ j, j < i → accT (rs j) (xs j) = true) ∧ Below w.heap.size w wr) (fun iv _ => N - (intOf iv).toNat)
  case atStart => exact ⟨0, Nat.zero_le _, rfl, fun j hj => absurd hj (by omega), brefl w⟩
  case round =>
    obtain ⟨i, hi, rfl, hall, hb⟩ := hrel
    have HA := Lib.hid hall
    have HB := Lib.hid hb
    by_cases hlt : i < N
    · have hw := h.belw hb
      obtain ⟨b, A, m, c, D, m', e, c0, c1, c2, c3, h5⟩ := hw.2 i hlt
      have hgl := hw.1
      obtain ⟨x, hx⟩ : ∃ x, xs i = x := ⟨_, rfl⟩
      rw [hx] at c3
      have HX := Lib.hid hx
      have H := Lib.hid h
      clear h hw hall hb hx
      go_wp2_with fail
      (with_reducible refine (g_check _ b A m c D m' e (rs i) k ?_ ?_ ?_ x).mono ?_); (exact h5.belw ((Below.refl _ _).alloc (Nat.le_refl _) _)); (exact h0); (exact hk); rintro e w1 ⟨rfl, hb1⟩
      have HB1 := Lib.hid (HB.out.trans ((((Below.refl _ _).alloc (Nat.le_refl _) _).trans (hb1.mono (by simp))).mono HB.out.size))
      clear hb1
      by_cases hacc : accT (rs i) x = true
      · rw [if_pos hacc]
        have HC := Lib.hid hacc
        clear hacc
        go_wp2_with fail
        go_roundw
        case rel => exact ⟨i + 1, by omega, by go_num, fun j hj => by
          by_cases hji : j = i
          · subst hji; rw [HX.out]; exact HC.out
          · exact HA.out j (by omega), HB1.out⟩
        case measure => simp [intOf]; omega
      · rw [if_neg hacc]
        clear hacc
        go_wp2_with fail
        go_ret
        exact ⟨false, rfl, (fun h => nomatch h), HB1.out⟩
    · have hiN : i = N := by omega
      subst hiN
      clear h hall hb
      go_wp2_with fail
      go_ret
      exact ⟨true, rfl, fun _ => HA.out, HB.out⟩
end Go.Proofs.Ytmneloabphplmaa

/- Walks: opposite turns, parts, comparison. -/
namespace Go.Proofs.Ytmneloabphplmaa
open Go Go.RowKit Bn
attribute [local go_sem ↓] Go.wp_at_zero Go.wp_at_succ
set_option maxRecDepth 100000 in
set_option maxHeartbeats 2000000 in
/-- turn.neg -/
theorem t_neg (w : World) (b : Bool) (A : Option Addr) (n c : Nat) (D : Option Addr) (m e : Nat) (x : Bool) (t : TN) (k : Nat) (h : TK w b A n c D m e x t k) (h0 : 0 < k) (hk : k ≤ 1000000) :
    Calls Try.prog 36 #[.agg #[.bool b, .slice A n c, .slice D m e, .bool x]] w (RetT w (tneg t) k) := by
  go_enter Try.func36, Try.ntmps36
  go_wp2_with fail
  have p1 : Kp w ((w.alloc (.cells #[.bool b, .slice A n c, .slice D m e, .bool x] 26)).alloc (.cells #[.bool false, .slice none 0 0, .slice none 0 0, .bool false] 26)) := (((Kp.refl w).alloc (.cells #[.bool b, .slice A n c, .slice D m e, .bool x] 26)).alloc (.cells #[.bool false, .slice none 0 0, .slice none 0 0, .bool false] 26))
  have bw1 : Below w.heap.size w ((w.alloc (.cells #[.bool b, .slice A n c, .slice D m e, .bool x] 26)).alloc (.cells #[.bool false, .slice none 0 0, .slice none 0 0, .bool false] 26)) := (((brefl w).alloc (by first | omega | (simp <;> omega)) (.cells #[.bool b, .slice A n c, .slice D m e, .bool x] 26)).alloc (by first | omega | (simp <;> omega)) (.cells #[.bool false, .slice none 0 0, .slice none 0 0, .bool false] 26))
  have x1_0 : Blk ((w.alloc (.cells #[.bool b, .slice A n c, .slice D m e, .bool x] 26)).alloc (.cells #[.bool false, .slice none 0 0, .slice none 0 0, .bool false] 26)) (w.heap.size) 26 #[.bool b, .slice A n c, .slice D m e, .bool x] := ((blkAt _ _ _ (by simp)).alloc (.cells #[.bool false, .slice none 0 0, .slice none 0 0, .bool false] 26))
  have x1_1 : Blk ((w.alloc (.cells #[.bool b, .slice A n c, .slice D m e, .bool x] 26)).alloc (.cells #[.bool false, .slice none 0 0, .slice none 0 0, .bool false] 26)) (w.heap.size + 1) 26 #[.bool false, .slice none 0 0, .slice none 0 0, .bool false] := (blkAt _ _ _ (by simp))
  have lw1 : w.heap.size + 2 ≤ ((w.alloc (.cells #[.bool b, .slice A n c, .slice D m e, .bool x] 26)).alloc (.cells #[.bool false, .slice none 0 0, .slice none 0 0, .bool false] 26)).heap.size := by simp
  generalize hE1 : ((w.alloc (.cells #[.bool b, .slice A n c, .slice D m e, .bool x] 26)).alloc (.cells #[.bool false, .slice none 0 0, .slice none 0 0, .bool false] 26)) = w1 at p1 bw1 lw1 x1_0 x1_1 ⊢
  clear hE1
  replace h := h.keep p1
  have cx1_0_0 : w1.cell? ⟨w.heap.size, 0, none⟩ = some (.bool b) := x1_0.cell 0
  have cx1_0_1 : w1.cell? ⟨w.heap.size, 1, none⟩ = some (.slice A n c) := x1_0.cell 1
  have cx1_0_2 : w1.cell? ⟨w.heap.size, 2, none⟩ = some (.slice D m e) := x1_0.cell 2
  have cx1_0_3 : w1.cell? ⟨w.heap.size, 3, none⟩ = some (.bool x) := x1_0.cell 3
  have lx1_0_0 : w.heap.size < w1.heap.size := by have := x1_0.lt; omega
  have lx1_0_1 : w.heap.size < w1.heap.size + 1 := by have := x1_0.lt; omega
  have lx1_0_2 : w.heap.size < w1.heap.size + 2 := by have := x1_0.lt; omega
  have lx1_0_3 : w.heap.size < w1.heap.size + 3 := by have := x1_0.lt; omega
  have cx1_1_0 : w1.cell? ⟨w.heap.size + 1, 0, none⟩ = some (.bool false) := x1_1.cell 0
  have fx1_1_0 : w1.frozen? ⟨w.heap.size + 1, 0, none⟩ = false := x1_1.frozen 0
  have cx1_1_1 : w1.cell? ⟨w.heap.size + 1, 1, none⟩ = some (.slice none 0 0) := x1_1.cell 1
  have fx1_1_1 : w1.frozen? ⟨w.heap.size + 1, 1, none⟩ = false := x1_1.frozen 1
  have cx1_1_2 : w1.cell? ⟨w.heap.size + 1, 2, none⟩ = some (.slice none 0 0) := x1_1.cell 2
  have fx1_1_2 : w1.frozen? ⟨w.heap.size + 1, 2, none⟩ = false := x1_1.frozen 2
  have cx1_1_3 : w1.cell? ⟨w.heap.size + 1, 3, none⟩ = some (.bool false) := x1_1.cell 3
  have fx1_1_3 : w1.frozen? ⟨w.heap.size + 1, 3, none⟩ = false := x1_1.frozen 3
  have lx1_1_0 : w.heap.size + 1 < w1.heap.size := by have := x1_1.lt; omega
  have lx1_1_1 : w.heap.size < w1.heap.size := by have := x1_1.lt; omega
  have lx1_1_2 : w.heap.size < w1.heap.size + 1 := by have := x1_1.lt; omega
  have lx1_1_3 : w.heap.size < w1.heap.size + 2 := by have := x1_1.lt; omega
  have nfx1_0_0 : ¬ w.heap.size = w.heap.size + 1 := by omega
  have nex1_0_0 : ¬ w.heap.size = w.heap.size + 1 := by omega
  go_region_held3 (fun w' => SeesX w1.heap.size (w.heap.size + 1) w1 w') (first | with_reducible exact SeesX.of (Nat.le_refl _) (by assumption) | with_reducible exact SeesX.of (Nat.le_refl _) (brefl _).drew | with_reducible exact (SeesX.set (SeesX.set (SeesX.set (SeesX.set (SeesX.of (Nat.le_refl _) (by assumption)))))) | with_reducible exact (SeesX.set (SeesX.set (SeesX.set (SeesX.of (Nat.le_refl _) (by assumption))))) | with_reducible exact (SeesX.set (SeesX.set (SeesX.of (Nat.le_refl _) (by assumption)))) | with_reducible exact (SeesX.set (SeesX.of (Nat.le_refl _) (by assumption))) | exact SeesX.of (Nat.le_refl _) (below_drewN (brefl _) 1) | exact SeesX.of (Nat.le_refl _) (below_drewN (by assumption) _))
    (first
      | (go_at_call 50; (with_reducible refine (f_neg _ b A n c D m e ((t).t) (k) ?_ ?_ ?_).mono ?_); (exact h.qz); (first | omega | decide | assumption); (first | omega | decide | assumption); rintro e w2 ⟨b2, A2, n2, c2, A'2, n'2, c'2, rfl, h2, hb2⟩; replace hb2 := bnext (below_drewN (brefl _) 1) hb2; have q2 : Below w1.heap.size w1 w2 := bnext (brefl w1) hb2; replace h := h.belw hb2; have x1_1 : Blk w2 (w.heap.size + 1) 26 #[.bool false, .slice none 0 0, .slice none 0 0, .bool false] := x1_1.below q2 x1_1.lt; have cx1_1_0 : w2.cell? ⟨w.heap.size + 1, 0, none⟩ = some (.bool false) := x1_1.cell 0; have cx1_1_1 : w2.cell? ⟨w.heap.size + 1, 1, none⟩ = some (.slice none 0 0) := x1_1.cell 1; have cx1_1_2 : w2.cell? ⟨w.heap.size + 1, 2, none⟩ = some (.slice none 0 0) := x1_1.cell 2; have cx1_1_3 : w2.cell? ⟨w.heap.size + 1, 3, none⟩ = some (.bool false) := x1_1.cell 3; have fx1_1_0 : w2.frozen? ⟨w.heap.size + 1, 0, none⟩ = false := x1_1.frozen 0; have fx1_1_1 : w2.frozen? ⟨w.heap.size + 1, 1, none⟩ = false := x1_1.frozen 1; have fx1_1_2 : w2.frozen? ⟨w.heap.size + 1, 2, none⟩ = false := x1_1.frozen 2; have fx1_1_3 : w2.frozen? ⟨w.heap.size + 1, 3, none⟩ = false := x1_1.frozen 3))
  have bw2 : Below w.heap.size w w2 := bw1.trans (q2.mono bw1.size)
  clear cx1_0_0 cx1_0_1 cx1_0_2 cx1_0_3 lx1_0_0 lx1_0_1 lx1_0_2 lx1_0_3 cx1_1_0 fx1_1_0 cx1_1_1 fx1_1_1 cx1_1_2 fx1_1_2 cx1_1_3 fx1_1_3 lx1_1_0 lx1_1_1 lx1_1_2 lx1_1_3
  replace x1_0 : Blk w2 (w.heap.size) 26 #[.bool b, .slice A n c, .slice D m e, .bool x] := x1_0.below q2 x1_0.lt
  have lw2 : w1.heap.size ≤ w2.heap.size := q2.size
  have cx1_1_0 : w2.cell? ⟨w.heap.size + 1, 0, none⟩ = some (.bool false) := x1_1.cell 0
  have fx1_1_0 : w2.frozen? ⟨w.heap.size + 1, 0, none⟩ = false := x1_1.frozen 0
  have cx1_1_1 : w2.cell? ⟨w.heap.size + 1, 1, none⟩ = some (.slice none 0 0) := x1_1.cell 1
  have fx1_1_1 : w2.frozen? ⟨w.heap.size + 1, 1, none⟩ = false := x1_1.frozen 1
  have cx1_1_2 : w2.cell? ⟨w.heap.size + 1, 2, none⟩ = some (.slice none 0 0) := x1_1.cell 2
  have fx1_1_2 : w2.frozen? ⟨w.heap.size + 1, 2, none⟩ = false := x1_1.frozen 2
  have cx1_1_3 : w2.cell? ⟨w.heap.size + 1, 3, none⟩ = some (.bool false) := x1_1.cell 3
  have fx1_1_3 : w2.frozen? ⟨w.heap.size + 1, 3, none⟩ = false := x1_1.frozen 3
  go_wp2_with fail
  -- h2
  refine bodyPost_ret (v := .agg #[.bool b2, .slice A2 n2 c2, .slice A'2 n'2 c'2, .bool x]) (by simp [results, Try.results36, go_sem, *] <;> first | rfl | exact ⟨rfl, rfl⟩) rfl ?_
  have kp := (((((Kp.refl w2).setB (p := ⟨w.heap.size + 1, 0, none⟩) x1_1.box (by decide) (.bool b2)).setB (p := ⟨w.heap.size + 1, 1, none⟩) (x1_1.box.set ⟨w.heap.size + 1, 0, none⟩ (.bool b2)) (by decide) (.slice A2 n2 c2)).setB (p := ⟨w.heap.size + 1, 2, none⟩) ((x1_1.box.set ⟨w.heap.size + 1, 0, none⟩ (.bool b2)).set ⟨w.heap.size + 1, 1, none⟩ (.slice A2 n2 c2)) (by decide) (.slice A'2 n'2 c'2)).setB (p := ⟨w.heap.size + 1, 3, none⟩) (((x1_1.box.set ⟨w.heap.size + 1, 0, none⟩ (.bool b2)).set ⟨w.heap.size + 1, 1, none⟩ (.slice A2 n2 c2)).set ⟨w.heap.size + 1, 2, none⟩ (.slice A'2 n'2 c'2)) (by decide) (.bool x))
  exact ⟨b2, A2, n2, c2, A'2, n'2, c'2, x, rfl, ⟨h2.keep kp, h.2.1, tneg_ok h.2.2⟩, ((((bw2.setCell (p := ⟨w.heap.size + 1, 0, none⟩) (by dsimp only; omega) (.bool b2)).setCell (p := ⟨w.heap.size + 1, 1, none⟩) (by dsimp only; omega) (.slice A2 n2 c2)).setCell (p := ⟨w.heap.size + 1, 2, none⟩) (by dsimp only; omega) (.slice A'2 n'2 c'2)).setCell (p := ⟨w.heap.size + 1, 3, none⟩) (by dsimp only; omega) (.bool x))⟩
set_option maxRecDepth 100000 in
set_option maxHeartbeats 2000000 in
/-- turn.part -/
theorem t_part_true (w : World) (b : Bool) (A : Option Addr) (n c : Nat) (D : Option Addr) (m e : Nat) (t : TN) (k : Nat) (h : TK w b A n c D m e true t k) (h0 : 0 < k) (hk : k ≤ 1000000) :
    Calls Try.prog 63 #[.agg #[.bool b, .slice A n c, .slice D m e, .bool true]] w (RetV w (.int .i64 1)) := by
  have H := Lib.hid h
  clear h
  go_enter Try.func63, Try.ntmps63
  go_wp2
  go_ret
  exact retI rfl ((Below.refl _ _).alloc (Nat.le_refl _) _)
set_option maxRecDepth 100000 in
set_option maxHeartbeats 2000000 in
/-- turn.part -/
theorem t_part_neg (w : World) (b : Bool) (A : Option Addr) (n c : Nat) (D : Option Addr) (m e : Nat) (t : TN) (k : Nat) (h : TK w b A n c D m e false t k) (h0 : 0 < k) (hk : k ≤ 1000000) (hs : t.t.num.sign = -1) :
    Calls Try.prog 63 #[.agg #[.bool b, .slice A n c, .slice D m e, .bool false]] w (RetV w (.int .i64 2)) := by
  have HS := Lib.hid hs
  clear hs
  go_enter Try.func63, Try.ntmps63
  go_wp2_with fail
  (with_reducible refine (f_sign_e _ b A n c D m e ((t).t) (k) ?_ (-1) ?_ ?_ ?_).mono ?_); (exact (h.belw ((Below.refl _ _).alloc (Nat.le_refl _) _)).qz); (exact HS.out); (first | omega | decide | assumption); (first | omega | decide | assumption); rintro e w1 ⟨rfl, hb1⟩
  have q1 : Below w.heap.size w w1 := ((Below.refl _ _).alloc (Nat.le_refl _) _).trans (hb1.mono (by simp))
  replace h := h.belw q1
  have x1_0 : Blk w1 (w.heap.size) 26 #[.bool b, .slice A n c, .slice D m e, .bool false] := (blkAt _ _ _ (by simp)).below hb1 (by simp)
  have bw1 : Below w.heap.size w w1 := (brefl w).trans (q1.mono (brefl w).size)
  have lw1 : w.heap.size + 1 ≤ w1.heap.size := by have := hb1.size; simp at this; omega
  clear hb1 q1
  go_wp2_with fail
  go_ret
  exact retI rfl bw1
set_option maxRecDepth 100000 in
set_option maxHeartbeats 2000000 in
/-- turn.part -/
theorem t_part_pos (w : World) (b : Bool) (A : Option Addr) (n c : Nat) (D : Option Addr) (m e : Nat) (t : TN) (k : Nat) (h : TK w b A n c D m e false t k) (h0 : 0 < k) (hk : k ≤ 1000000) (s : Int) (hs : t.t.num.sign = s) (h1 : 0 ≤ s) :
    Calls Try.prog 63 #[.agg #[.bool b, .slice A n c, .slice D m e, .bool false]] w (RetV w (.int .i64 0)) := by
  have HS := Lib.hid hs
  have e0 : decide (s < 0) = false := by simp; omega
  clear hs
  go_enter Try.func63, Try.ntmps63
  go_wp2_with fail
  (with_reducible refine (f_sign_e _ b A n c D m e ((t).t) (k) ?_ (s) ?_ ?_ ?_).mono ?_); (exact (h.belw ((Below.refl _ _).alloc (Nat.le_refl _) _)).qz); (exact HS.out); (first | omega | decide | assumption); (first | omega | decide | assumption); rintro e w1 ⟨rfl, hb1⟩
  have q1 : Below w.heap.size w w1 := ((Below.refl _ _).alloc (Nat.le_refl _) _).trans (hb1.mono (by simp))
  replace h := h.belw q1
  have x1_0 : Blk w1 (w.heap.size) 26 #[.bool b, .slice A n c, .slice D m e, .bool false] := (blkAt _ _ _ (by simp)).below hb1 (by simp)
  have bw1 : Below w.heap.size w w1 := (brefl w).trans (q1.mono (brefl w).size)
  have lw1 : w.heap.size + 1 ≤ w1.heap.size := by have := hb1.size; simp at this; omega
  clear hb1 q1
  go_wp2_with fail
  go_ret
  exact retI rfl bw1
theorem t_part (w : World) (b : Bool) (A : Option Addr) (n c : Nat) (D : Option Addr) (m e : Nat) (x : Bool) (t : TN) (k : Nat) (h : TK w b A n c D m e x t k) (h0 : 0 < k) (hk : k ≤ 1000000) : Calls Try.prog 63 #[.agg #[.bool b, .slice A n c, .slice D m e, .bool x]] w (RetV w (.int .i64 (tpart t))) := by
  cases x
  · have hh : t.h = false := h.2.1.symm
    rcases sign3 t.t.num with s | s | s
    · have : tpart t = 0 := by unfold tpart; rw [if_neg (by rw [hh]; decide), if_neg (by rw [Rat.num_eq_zero.1 s]; decide)]
      rw [this]; exact t_part_pos w b A n c D m e t k h h0 hk 0 (by rw [s]; rfl) (by omega)
    · have : tpart t = 0 := by
        have h1 := sign_q t.t
        unfold tpart; rw [if_neg (by rw [hh]; decide), if_neg (by intro h2; rw [if_pos h2] at h1; rw [h1] at s; exact absurd s (by decide))]
      rw [this]; exact t_part_pos w b A n c D m e t k h h0 hk 1 s (by omega)
    · have : tpart t = 2 := by
        have h1 := sign_q t.t
        unfold tpart; rw [if_neg (by rw [hh]; decide)]
        split
        · rfl
        · rename_i h2; rw [if_neg h2, s] at h1; split at h1 <;> exact absurd h1 (by decide)
      rw [this]; exact t_part_neg w b A n c D m e t k h h0 hk s
  · have : tpart t = 1 := by unfold tpart; rw [if_pos h.2.1.symm]
    rw [this]; exact t_part_true w b A n c D m e t k h h0 hk
end Go.Proofs.Ytmneloabphplmaa

/- Walks: the opposite turn. -/
namespace Go.Proofs.Ytmneloabphplmaa
open Go Go.RowKit Bn
attribute [local go_sem ↓] Go.wp_at_zero Go.wp_at_succ
set_option maxRecDepth 100000 in
set_option maxHeartbeats 2000000 in
/-- turn.Neg -/
theorem t_Neg (w : World) (b : Bool) (A : Option Addr) (n c : Nat) (D : Option Addr) (m e : Nat) (x : Bool) (t : TN) (k : Nat) (h : TK w b A n c D m e x t k) (h0 : 0 < k) (hk : k ≤ 1000000) :
    Calls Try.prog 14 #[.agg #[.bool b, .slice A n c, .slice D m e, .bool x]] w (RetTe w .nilIface (tneg t) k) := by
  go_enter Try.func14, Try.ntmps14
  go_wp2_with fail
  (with_reducible refine (t_check _ b A n c D m e x (t) (k) ?_ ?_ ?_).mono ?_); (exact (h.belw (((Below.refl _ _).alloc (Nat.le_refl _) _).alloc (by simp) _))); (first | omega | decide | assumption); (first | omega | decide | assumption); rintro e w1 ⟨rfl, hb1⟩
  have q1 : Below w.heap.size w w1 := (((Below.refl _ _).alloc (Nat.le_refl _) _).alloc (by simp) _).trans (hb1.mono (by simp <;> omega))
  replace h := h.belw q1
  have x1_0 : Blk w1 (w.heap.size) 26 #[.bool b, .slice A n c, .slice D m e, .bool x] := ((blkAt _ _ _ (by simp)).alloc _).below hb1 (by simp <;> omega)
  have x1_1 : Blk w1 (w.heap.size + 1) 26 #[.bool false, .slice none 0 0, .slice none 0 0, .bool false] := (blkAt _ _ _ (by simp)).below hb1 (by simp)
  have bw1 : Below w.heap.size w w1 := (brefl w).trans (q1.mono (brefl w).size)
  have lw1 : w.heap.size + 2 ≤ w1.heap.size := by have := hb1.size; simp at this; omega
  clear hb1 q1
  have cx1_0_0 : w1.cell? ⟨w.heap.size, 0, none⟩ = some (.bool b) := x1_0.cell 0
  have cx1_0_1 : w1.cell? ⟨w.heap.size, 1, none⟩ = some (.slice A n c) := x1_0.cell 1
  have cx1_0_2 : w1.cell? ⟨w.heap.size, 2, none⟩ = some (.slice D m e) := x1_0.cell 2
  have cx1_0_3 : w1.cell? ⟨w.heap.size, 3, none⟩ = some (.bool x) := x1_0.cell 3
  have lx1_0_0 : w.heap.size < w1.heap.size := by have := x1_0.lt; omega
  have lx1_0_1 : w.heap.size < w1.heap.size + 1 := by have := x1_0.lt; omega
  have lx1_0_2 : w.heap.size < w1.heap.size + 2 := by have := x1_0.lt; omega
  have lx1_0_3 : w.heap.size < w1.heap.size + 3 := by have := x1_0.lt; omega
  go_wp2_with fail
  (with_reducible refine (t_neg _ b A n c D m e x (t) (k) ?_ ?_ ?_).mono ?_); (exact h); (first | omega | decide | assumption); (first | omega | decide | assumption); rintro e w2 ⟨b2, A2, n2, c2, A'2, n'2, c'2, x2, rfl, h2, hb2⟩
  clear cx1_0_0 cx1_0_1 cx1_0_2 cx1_0_3 lx1_0_0 lx1_0_1 lx1_0_2 lx1_0_3
  have q2 : Below w1.heap.size w1 w2 := hb2
  replace h := h.belw q2
  replace x1_0 : Blk w2 (w.heap.size) 26 #[.bool b, .slice A n c, .slice D m e, .bool x] := x1_0.below q2 x1_0.lt
  replace x1_1 : Blk w2 (w.heap.size + 1) 26 #[.bool false, .slice none 0 0, .slice none 0 0, .bool false] := x1_1.below q2 x1_1.lt
  have bw2 : Below w.heap.size w w2 := bw1.trans (q2.mono bw1.size)
  have lw2 : w1.heap.size ≤ w2.heap.size := q2.size
  clear hb2 q2 bw1
  have cx1_1_0 : w2.cell? ⟨w.heap.size + 1, 0, none⟩ = some (.bool false) := x1_1.cell 0
  have fx1_1_0 : w2.frozen? ⟨w.heap.size + 1, 0, none⟩ = false := x1_1.frozen 0
  have cx1_1_1 : w2.cell? ⟨w.heap.size + 1, 1, none⟩ = some (.slice none 0 0) := x1_1.cell 1
  have fx1_1_1 : w2.frozen? ⟨w.heap.size + 1, 1, none⟩ = false := x1_1.frozen 1
  have cx1_1_2 : w2.cell? ⟨w.heap.size + 1, 2, none⟩ = some (.slice none 0 0) := x1_1.cell 2
  have fx1_1_2 : w2.frozen? ⟨w.heap.size + 1, 2, none⟩ = false := x1_1.frozen 2
  have cx1_1_3 : w2.cell? ⟨w.heap.size + 1, 3, none⟩ = some (.bool false) := x1_1.cell 3
  have fx1_1_3 : w2.frozen? ⟨w.heap.size + 1, 3, none⟩ = false := x1_1.frozen 3
  have lx1_1_0 : w.heap.size + 1 < w2.heap.size := by have := x1_1.lt; omega
  have lx1_1_1 : w.heap.size < w2.heap.size := by have := x1_1.lt; omega
  have lx1_1_2 : w.heap.size < w2.heap.size + 1 := by have := x1_1.lt; omega
  have lx1_1_3 : w.heap.size < w2.heap.size + 2 := by have := x1_1.lt; omega
  go_wp2_with fail
  refine bodyPost_ret (v := .tuple #[.agg #[.bool b2, .slice A2 n2 c2, .slice A'2 n'2 c'2, .bool x2], .nilIface]) (by simp [results, Try.results14, go_sem, *] <;> first | rfl | exact ⟨rfl, rfl⟩) rfl ?_
  have kp := (((((Kp.refl w2).setB (p := ⟨w.heap.size + 1, 0, none⟩) x1_1.box (by decide) (.bool b2)).setB (p := ⟨w.heap.size + 1, 1, none⟩) (x1_1.box.set ⟨w.heap.size + 1, 0, none⟩ (.bool b2)) (by decide) (.slice A2 n2 c2)).setB (p := ⟨w.heap.size + 1, 2, none⟩) ((x1_1.box.set ⟨w.heap.size + 1, 0, none⟩ (.bool b2)).set ⟨w.heap.size + 1, 1, none⟩ (.slice A2 n2 c2)) (by decide) (.slice A'2 n'2 c'2)).setB (p := ⟨w.heap.size + 1, 3, none⟩) (((x1_1.box.set ⟨w.heap.size + 1, 0, none⟩ (.bool b2)).set ⟨w.heap.size + 1, 1, none⟩ (.slice A2 n2 c2)).set ⟨w.heap.size + 1, 2, none⟩ (.slice A'2 n'2 c'2)) (by decide) (.bool x2))
  exact ⟨b2, A2, n2, c2, A'2, n'2, c'2, x2, rfl, h2.keep kp, ((((bw2.setCell (p := ⟨w.heap.size + 1, 0, none⟩) (by dsimp only; omega) (.bool b2)).setCell (p := ⟨w.heap.size + 1, 1, none⟩) (by dsimp only; omega) (.slice A2 n2 c2)).setCell (p := ⟨w.heap.size + 1, 2, none⟩) (by dsimp only; omega) (.slice A'2 n'2 c'2)).setCell (p := ⟨w.heap.size + 1, 3, none⟩) (by dsimp only; omega) (.bool x2))⟩
end Go.Proofs.Ytmneloabphplmaa

/- Walks: comparison of turns; the turn of a cosine and a sine. -/
namespace Go.Proofs.Ytmneloabphplmaa
open Go Go.RowKit Bn
attribute [local go_sem ↓] Go.wp_at_zero Go.wp_at_succ
theorem t_part_e (w : World) (b : Bool) (A : Option Addr) (n c : Nat) (D : Option Addr) (m e : Nat) (x : Bool) (t : TN) (k : Nat) (h : TK w b A n c D m e x t k) (s : Int) (hs : tpart t = s) (h0 : 0 < k) (hk : k ≤ 1000000) : Calls Try.prog 63 #[.agg #[.bool b, .slice A n c, .slice D m e, .bool x]] w (RetV w (.int .i64 s)) := by subst hs; exact t_part w b A n c D m e x t k h h0 hk
theorem cmpI_rcmp (a b : Rat) : cmpI (a.num * b.den) (b.num * a.den) = rcmp a b := by
  unfold cmpI rcmp
  have h := cmp_q a b
  by_cases h1 : a < b
  · rw [if_pos h1, if_pos (h.1.2 h1)]
  · rw [if_neg h1, if_neg (fun x => h1 (h.1.1 x))]
    by_cases h2 : a = b
    · rw [if_pos h2, if_pos (h.2.2 h2)]
    · rw [if_neg h2, if_neg (fun x => h2 (h.2.1 x))]
set_option maxRecDepth 100000 in
set_option maxHeartbeats 2000000 in
/-- turn.compare -/
theorem t_compare_lt (w : World) (b : Bool) (A : Option Addr) (n c : Nat) (D : Option Addr) (m e : Nat) (x : Bool) (t : TN) (k : Nat) (h : TK w b A n c D m e x t k) (b' : Bool) (A' : Option Addr) (n' c' : Nat) (D' : Option Addr) (m' e' : Nat) (x' : Bool) (t' : TN) (k' : Nat) (h' : TK w b' A' n' c' D' m' e' x' t' k') (h0 : 0 < k) (hk : k ≤ 1000000) (h0' : 0 < k') (hk' : k' ≤ 1000000) (hp : tpart t < tpart t') :
    Calls Try.prog 41 #[.agg #[.bool b, .slice A n c, .slice D m e, .bool x], .agg #[.bool b', .slice A' n' c', .slice D' m' e', .bool x']] w (RetV w (.int .i64 (-1))) := by
  obtain ⟨s, hs⟩ : ∃ s, tpart t = s := ⟨_, rfl⟩
  obtain ⟨s', hs'⟩ : ∃ s, tpart t' = s := ⟨_, rfl⟩
  rw [hs, hs'] at hp
  have e1 : decide (s < s') = true := by simp; omega
  have HS := Lib.hid hs
  have HS' := Lib.hid hs'
  clear hs hs' hp
  go_enter Try.func41, Try.ntmps41
  go_wp2_with fail
  have p1 : Kp w ((w.alloc (.cells #[.bool b, .slice A n c, .slice D m e, .bool x] 26)).alloc (.cells #[.bool b', .slice A' n' c', .slice D' m' e', .bool x'] 26)) := (((Kp.refl w).alloc (.cells #[.bool b, .slice A n c, .slice D m e, .bool x] 26)).alloc (.cells #[.bool b', .slice A' n' c', .slice D' m' e', .bool x'] 26))
  have bw1 : Below w.heap.size w ((w.alloc (.cells #[.bool b, .slice A n c, .slice D m e, .bool x] 26)).alloc (.cells #[.bool b', .slice A' n' c', .slice D' m' e', .bool x'] 26)) := (((brefl w).alloc (by first | omega | (simp <;> omega)) (.cells #[.bool b, .slice A n c, .slice D m e, .bool x] 26)).alloc (by first | omega | (simp <;> omega)) (.cells #[.bool b', .slice A' n' c', .slice D' m' e', .bool x'] 26))
  have x1_0 : Blk ((w.alloc (.cells #[.bool b, .slice A n c, .slice D m e, .bool x] 26)).alloc (.cells #[.bool b', .slice A' n' c', .slice D' m' e', .bool x'] 26)) (w.heap.size) 26 #[.bool b, .slice A n c, .slice D m e, .bool x] := ((blkAt _ _ _ (by simp)).alloc (.cells #[.bool b', .slice A' n' c', .slice D' m' e', .bool x'] 26))
  have x1_1 : Blk ((w.alloc (.cells #[.bool b, .slice A n c, .slice D m e, .bool x] 26)).alloc (.cells #[.bool b', .slice A' n' c', .slice D' m' e', .bool x'] 26)) (w.heap.size + 1) 26 #[.bool b', .slice A' n' c', .slice D' m' e', .bool x'] := (blkAt _ _ _ (by simp))
  have lw1 : w.heap.size + 2 ≤ ((w.alloc (.cells #[.bool b, .slice A n c, .slice D m e, .bool x] 26)).alloc (.cells #[.bool b', .slice A' n' c', .slice D' m' e', .bool x'] 26)).heap.size := by simp
  generalize hE1 : ((w.alloc (.cells #[.bool b, .slice A n c, .slice D m e, .bool x] 26)).alloc (.cells #[.bool b', .slice A' n' c', .slice D' m' e', .bool x'] 26)) = w1 at p1 bw1 lw1 x1_0 x1_1 ⊢
  clear hE1
  replace h := h.keep p1
  replace h' := h'.keep p1
  have cx1_0_0 : w1.cell? ⟨w.heap.size, 0, none⟩ = some (.bool b) := x1_0.cell 0
  have cx1_0_1 : w1.cell? ⟨w.heap.size, 1, none⟩ = some (.slice A n c) := x1_0.cell 1
  have cx1_0_2 : w1.cell? ⟨w.heap.size, 2, none⟩ = some (.slice D m e) := x1_0.cell 2
  have cx1_0_3 : w1.cell? ⟨w.heap.size, 3, none⟩ = some (.bool x) := x1_0.cell 3
  have lx1_0_0 : w.heap.size < w1.heap.size := by have := x1_0.lt; omega
  have lx1_0_1 : w.heap.size < w1.heap.size + 1 := by have := x1_0.lt; omega
  have lx1_0_2 : w.heap.size < w1.heap.size + 2 := by have := x1_0.lt; omega
  have lx1_0_3 : w.heap.size < w1.heap.size + 3 := by have := x1_0.lt; omega
  have cx1_1_0 : w1.cell? ⟨w.heap.size + 1, 0, none⟩ = some (.bool b') := x1_1.cell 0
  have cx1_1_1 : w1.cell? ⟨w.heap.size + 1, 1, none⟩ = some (.slice A' n' c') := x1_1.cell 1
  have cx1_1_2 : w1.cell? ⟨w.heap.size + 1, 2, none⟩ = some (.slice D' m' e') := x1_1.cell 2
  have cx1_1_3 : w1.cell? ⟨w.heap.size + 1, 3, none⟩ = some (.bool x') := x1_1.cell 3
  have lx1_1_0 : w.heap.size + 1 < w1.heap.size := by have := x1_1.lt; omega
  have lx1_1_1 : w.heap.size < w1.heap.size := by have := x1_1.lt; omega
  have lx1_1_2 : w.heap.size < w1.heap.size + 1 := by have := x1_1.lt; omega
  have lx1_1_3 : w.heap.size < w1.heap.size + 2 := by have := x1_1.lt; omega
  go_region_held3 (fun w' => Sees w1.heap.size w1 w') (first | with_reducible exact Sees.of (Nat.le_refl _) (by assumption) | with_reducible exact Sees.of (Nat.le_refl _) (brefl _).drew | exact Sees.of (Nat.le_refl _) (below_drewN (brefl _) 1) | exact Sees.of (Nat.le_refl _) (below_drewN (by assumption) _))
    (first
      | (go_at_call 63; (with_reducible refine (t_part_e _ b A n c D m e x (t) (k) ?_ s ?_ ?_ ?_).mono ?_); (exact h); (exact HS.out); (first | omega | decide | assumption); (first | omega | decide | assumption); rintro e w2 ⟨rfl, hb2⟩; replace hb2 := bnext (below_drewN (brefl _) 1) hb2; have q2 : Below w1.heap.size w1 w2 := bnext (brefl w1) hb2; replace h := h.belw hb2; replace h' := h'.belw hb2)
      | (go_at_call 63; (with_reducible refine (t_part_e _ b' A' n' c' D' m' e' x' (t') (k') ?_ s' ?_ ?_ ?_).mono ?_); (exact h'); (exact HS'.out); (first | omega | decide | assumption); (first | omega | decide | assumption); rintro e w3 ⟨rfl, hb3⟩; have q3 : Below w1.heap.size w1 w3 := bnext q2 hb3; replace h := h.belw hb3; replace h' := h'.belw hb3))
  have bw3 : Below w.heap.size w w3 := bw1.trans (q3.mono bw1.size)
  clear cx1_0_0 cx1_0_1 cx1_0_2 cx1_0_3 lx1_0_0 lx1_0_1 lx1_0_2 lx1_0_3 cx1_1_0 cx1_1_1 cx1_1_2 cx1_1_3 lx1_1_0 lx1_1_1 lx1_1_2 lx1_1_3
  replace x1_0 : Blk w3 (w.heap.size) 26 #[.bool b, .slice A n c, .slice D m e, .bool x] := x1_0.below q3 x1_0.lt
  replace x1_1 : Blk w3 (w.heap.size + 1) 26 #[.bool b', .slice A' n' c', .slice D' m' e', .bool x'] := x1_1.below q3 x1_1.lt
  have lw3 : w1.heap.size ≤ w3.heap.size := q3.size
  go_wp2_with fail
  go_ret
  exact retI rfl bw3
set_option maxRecDepth 100000 in
set_option maxHeartbeats 2000000 in
/-- turn.compare -/
theorem t_compare_gt (w : World) (b : Bool) (A : Option Addr) (n c : Nat) (D : Option Addr) (m e : Nat) (x : Bool) (t : TN) (k : Nat) (h : TK w b A n c D m e x t k) (b' : Bool) (A' : Option Addr) (n' c' : Nat) (D' : Option Addr) (m' e' : Nat) (x' : Bool) (t' : TN) (k' : Nat) (h' : TK w b' A' n' c' D' m' e' x' t' k') (h0 : 0 < k) (hk : k ≤ 1000000) (h0' : 0 < k') (hk' : k' ≤ 1000000) (hp : tpart t' < tpart t) :
    Calls Try.prog 41 #[.agg #[.bool b, .slice A n c, .slice D m e, .bool x], .agg #[.bool b', .slice A' n' c', .slice D' m' e', .bool x']] w (RetV w (.int .i64 1)) := by
  obtain ⟨s, hs⟩ : ∃ s, tpart t = s := ⟨_, rfl⟩
  obtain ⟨s', hs'⟩ : ∃ s, tpart t' = s := ⟨_, rfl⟩
  rw [hs, hs'] at hp
  have e1 : decide (s < s') = false := by simp; omega
  have e2 : decide (s' < s) = true := by simp; omega
  have HS := Lib.hid hs
  have HS' := Lib.hid hs'
  clear hs hs' hp
  go_enter Try.func41, Try.ntmps41
  go_wp2_with fail
  have p1 : Kp w ((w.alloc (.cells #[.bool b, .slice A n c, .slice D m e, .bool x] 26)).alloc (.cells #[.bool b', .slice A' n' c', .slice D' m' e', .bool x'] 26)) := (((Kp.refl w).alloc (.cells #[.bool b, .slice A n c, .slice D m e, .bool x] 26)).alloc (.cells #[.bool b', .slice A' n' c', .slice D' m' e', .bool x'] 26))
  have bw1 : Below w.heap.size w ((w.alloc (.cells #[.bool b, .slice A n c, .slice D m e, .bool x] 26)).alloc (.cells #[.bool b', .slice A' n' c', .slice D' m' e', .bool x'] 26)) := (((brefl w).alloc (by first | omega | (simp <;> omega)) (.cells #[.bool b, .slice A n c, .slice D m e, .bool x] 26)).alloc (by first | omega | (simp <;> omega)) (.cells #[.bool b', .slice A' n' c', .slice D' m' e', .bool x'] 26))
  have x1_0 : Blk ((w.alloc (.cells #[.bool b, .slice A n c, .slice D m e, .bool x] 26)).alloc (.cells #[.bool b', .slice A' n' c', .slice D' m' e', .bool x'] 26)) (w.heap.size) 26 #[.bool b, .slice A n c, .slice D m e, .bool x] := ((blkAt _ _ _ (by simp)).alloc (.cells #[.bool b', .slice A' n' c', .slice D' m' e', .bool x'] 26))
  have x1_1 : Blk ((w.alloc (.cells #[.bool b, .slice A n c, .slice D m e, .bool x] 26)).alloc (.cells #[.bool b', .slice A' n' c', .slice D' m' e', .bool x'] 26)) (w.heap.size + 1) 26 #[.bool b', .slice A' n' c', .slice D' m' e', .bool x'] := (blkAt _ _ _ (by simp))
  have lw1 : w.heap.size + 2 ≤ ((w.alloc (.cells #[.bool b, .slice A n c, .slice D m e, .bool x] 26)).alloc (.cells #[.bool b', .slice A' n' c', .slice D' m' e', .bool x'] 26)).heap.size := by simp
  generalize hE1 : ((w.alloc (.cells #[.bool b, .slice A n c, .slice D m e, .bool x] 26)).alloc (.cells #[.bool b', .slice A' n' c', .slice D' m' e', .bool x'] 26)) = w1 at p1 bw1 lw1 x1_0 x1_1 ⊢
  clear hE1
  replace h := h.keep p1
  replace h' := h'.keep p1
  have cx1_0_0 : w1.cell? ⟨w.heap.size, 0, none⟩ = some (.bool b) := x1_0.cell 0
  have cx1_0_1 : w1.cell? ⟨w.heap.size, 1, none⟩ = some (.slice A n c) := x1_0.cell 1
  have cx1_0_2 : w1.cell? ⟨w.heap.size, 2, none⟩ = some (.slice D m e) := x1_0.cell 2
  have cx1_0_3 : w1.cell? ⟨w.heap.size, 3, none⟩ = some (.bool x) := x1_0.cell 3
  have lx1_0_0 : w.heap.size < w1.heap.size := by have := x1_0.lt; omega
  have lx1_0_1 : w.heap.size < w1.heap.size + 1 := by have := x1_0.lt; omega
  have lx1_0_2 : w.heap.size < w1.heap.size + 2 := by have := x1_0.lt; omega
  have lx1_0_3 : w.heap.size < w1.heap.size + 3 := by have := x1_0.lt; omega
  have cx1_1_0 : w1.cell? ⟨w.heap.size + 1, 0, none⟩ = some (.bool b') := x1_1.cell 0
  have cx1_1_1 : w1.cell? ⟨w.heap.size + 1, 1, none⟩ = some (.slice A' n' c') := x1_1.cell 1
  have cx1_1_2 : w1.cell? ⟨w.heap.size + 1, 2, none⟩ = some (.slice D' m' e') := x1_1.cell 2
  have cx1_1_3 : w1.cell? ⟨w.heap.size + 1, 3, none⟩ = some (.bool x') := x1_1.cell 3
  have lx1_1_0 : w.heap.size + 1 < w1.heap.size := by have := x1_1.lt; omega
  have lx1_1_1 : w.heap.size < w1.heap.size := by have := x1_1.lt; omega
  have lx1_1_2 : w.heap.size < w1.heap.size + 1 := by have := x1_1.lt; omega
  have lx1_1_3 : w.heap.size < w1.heap.size + 2 := by have := x1_1.lt; omega
  go_region_held3 (fun w' => Sees w1.heap.size w1 w') (first | with_reducible exact Sees.of (Nat.le_refl _) (by assumption) | with_reducible exact Sees.of (Nat.le_refl _) (brefl _).drew | exact Sees.of (Nat.le_refl _) (below_drewN (brefl _) 1) | exact Sees.of (Nat.le_refl _) (below_drewN (by assumption) _))
    (first
      | (go_at_call 63; (with_reducible refine (t_part_e _ b A n c D m e x (t) (k) ?_ s ?_ ?_ ?_).mono ?_); (exact h); (exact HS.out); (first | omega | decide | assumption); (first | omega | decide | assumption); rintro e w2 ⟨rfl, hb2⟩; replace hb2 := bnext (below_drewN (brefl _) 1) hb2; have q2 : Below w1.heap.size w1 w2 := bnext (brefl w1) hb2; replace h := h.belw hb2; replace h' := h'.belw hb2)
      | (go_at_call 63; (with_reducible refine (t_part_e _ b' A' n' c' D' m' e' x' (t') (k') ?_ s' ?_ ?_ ?_).mono ?_); (exact h'); (exact HS'.out); (first | omega | decide | assumption); (first | omega | decide | assumption); rintro e w3 ⟨rfl, hb3⟩; have q3 : Below w1.heap.size w1 w3 := bnext q2 hb3; replace h := h.belw hb3; replace h' := h'.belw hb3))
  have bw3 : Below w.heap.size w w3 := bw1.trans (q3.mono bw1.size)
  clear cx1_0_0 cx1_0_1 cx1_0_2 cx1_0_3 lx1_0_0 lx1_0_1 lx1_0_2 lx1_0_3 cx1_1_0 cx1_1_1 cx1_1_2 cx1_1_3 lx1_1_0 lx1_1_1 lx1_1_2 lx1_1_3
  replace x1_0 : Blk w3 (w.heap.size) 26 #[.bool b, .slice A n c, .slice D m e, .bool x] := x1_0.below q3 x1_0.lt
  replace x1_1 : Blk w3 (w.heap.size + 1) 26 #[.bool b', .slice A' n' c', .slice D' m' e', .bool x'] := x1_1.below q3 x1_1.lt
  have lw3 : w1.heap.size ≤ w3.heap.size := q3.size
  go_wp2_with fail
  go_ret
  exact retI rfl bw3
set_option maxRecDepth 100000 in
set_option maxHeartbeats 2000000 in
/-- turn.compare -/
theorem t_compare_eq (w : World) (b : Bool) (A : Option Addr) (n c : Nat) (D : Option Addr) (m e : Nat) (x : Bool) (t : TN) (k : Nat) (h : TK w b A n c D m e x t k) (b' : Bool) (A' : Option Addr) (n' c' : Nat) (D' : Option Addr) (m' e' : Nat) (x' : Bool) (t' : TN) (k' : Nat) (h' : TK w b' A' n' c' D' m' e' x' t' k') (h0 : 0 < k) (hk : k ≤ 1000000) (h0' : 0 < k') (hk' : k' ≤ 1000000) (hp : tpart t = tpart t') :
    Calls Try.prog 41 #[.agg #[.bool b, .slice A n c, .slice D m e, .bool x], .agg #[.bool b', .slice A' n' c', .slice D' m' e', .bool x']] w (RetV w (.int .i64 (tcmp t t'))) := by
  obtain ⟨s, hs⟩ : ∃ s, tpart t = s := ⟨_, rfl⟩
  obtain ⟨s', hs'⟩ : ∃ s, tpart t' = s := ⟨_, rfl⟩
  have HR := Lib.hid (show cmpI (t.t.num * t'.t.den) (t'.t.num * t.t.den) = tcmp t t' by rw [cmpI_rcmp]; unfold tcmp; rw [if_neg (by omega), if_neg (by omega)])
  rw [hs, hs'] at hp
  have e1 : decide (s < s') = false := by simp; omega
  have e2 : decide (s' < s) = false := by simp; omega
  have HS := Lib.hid hs
  have HS' := Lib.hid hs'
  clear hs hs' hp
  go_enter Try.func41, Try.ntmps41
  go_wp2_with fail
  have p1 : Kp w ((w.alloc (.cells #[.bool b, .slice A n c, .slice D m e, .bool x] 26)).alloc (.cells #[.bool b', .slice A' n' c', .slice D' m' e', .bool x'] 26)) := (((Kp.refl w).alloc (.cells #[.bool b, .slice A n c, .slice D m e, .bool x] 26)).alloc (.cells #[.bool b', .slice A' n' c', .slice D' m' e', .bool x'] 26))
  have bw1 : Below w.heap.size w ((w.alloc (.cells #[.bool b, .slice A n c, .slice D m e, .bool x] 26)).alloc (.cells #[.bool b', .slice A' n' c', .slice D' m' e', .bool x'] 26)) := (((brefl w).alloc (by first | omega | (simp <;> omega)) (.cells #[.bool b, .slice A n c, .slice D m e, .bool x] 26)).alloc (by first | omega | (simp <;> omega)) (.cells #[.bool b', .slice A' n' c', .slice D' m' e', .bool x'] 26))
  have x1_0 : Blk ((w.alloc (.cells #[.bool b, .slice A n c, .slice D m e, .bool x] 26)).alloc (.cells #[.bool b', .slice A' n' c', .slice D' m' e', .bool x'] 26)) (w.heap.size) 26 #[.bool b, .slice A n c, .slice D m e, .bool x] := ((blkAt _ _ _ (by simp)).alloc (.cells #[.bool b', .slice A' n' c', .slice D' m' e', .bool x'] 26))
  have x1_1 : Blk ((w.alloc (.cells #[.bool b, .slice A n c, .slice D m e, .bool x] 26)).alloc (.cells #[.bool b', .slice A' n' c', .slice D' m' e', .bool x'] 26)) (w.heap.size + 1) 26 #[.bool b', .slice A' n' c', .slice D' m' e', .bool x'] := (blkAt _ _ _ (by simp))
  have lw1 : w.heap.size + 2 ≤ ((w.alloc (.cells #[.bool b, .slice A n c, .slice D m e, .bool x] 26)).alloc (.cells #[.bool b', .slice A' n' c', .slice D' m' e', .bool x'] 26)).heap.size := by simp
  generalize hE1 : ((w.alloc (.cells #[.bool b, .slice A n c, .slice D m e, .bool x] 26)).alloc (.cells #[.bool b', .slice A' n' c', .slice D' m' e', .bool x'] 26)) = w1 at p1 bw1 lw1 x1_0 x1_1 ⊢
  clear hE1
  replace h := h.keep p1
  replace h' := h'.keep p1
  have cx1_0_0 : w1.cell? ⟨w.heap.size, 0, none⟩ = some (.bool b) := x1_0.cell 0
  have cx1_0_1 : w1.cell? ⟨w.heap.size, 1, none⟩ = some (.slice A n c) := x1_0.cell 1
  have cx1_0_2 : w1.cell? ⟨w.heap.size, 2, none⟩ = some (.slice D m e) := x1_0.cell 2
  have cx1_0_3 : w1.cell? ⟨w.heap.size, 3, none⟩ = some (.bool x) := x1_0.cell 3
  have lx1_0_0 : w.heap.size < w1.heap.size := by have := x1_0.lt; omega
  have lx1_0_1 : w.heap.size < w1.heap.size + 1 := by have := x1_0.lt; omega
  have lx1_0_2 : w.heap.size < w1.heap.size + 2 := by have := x1_0.lt; omega
  have lx1_0_3 : w.heap.size < w1.heap.size + 3 := by have := x1_0.lt; omega
  have cx1_1_0 : w1.cell? ⟨w.heap.size + 1, 0, none⟩ = some (.bool b') := x1_1.cell 0
  have cx1_1_1 : w1.cell? ⟨w.heap.size + 1, 1, none⟩ = some (.slice A' n' c') := x1_1.cell 1
  have cx1_1_2 : w1.cell? ⟨w.heap.size + 1, 2, none⟩ = some (.slice D' m' e') := x1_1.cell 2
  have cx1_1_3 : w1.cell? ⟨w.heap.size + 1, 3, none⟩ = some (.bool x') := x1_1.cell 3
  have lx1_1_0 : w.heap.size + 1 < w1.heap.size := by have := x1_1.lt; omega
  have lx1_1_1 : w.heap.size < w1.heap.size := by have := x1_1.lt; omega
  have lx1_1_2 : w.heap.size < w1.heap.size + 1 := by have := x1_1.lt; omega
  have lx1_1_3 : w.heap.size < w1.heap.size + 2 := by have := x1_1.lt; omega
  go_region_held3 (fun w' => Sees w1.heap.size w1 w') (first | with_reducible exact Sees.of (Nat.le_refl _) (by assumption) | with_reducible exact Sees.of (Nat.le_refl _) (brefl _).drew | exact Sees.of (Nat.le_refl _) (below_drewN (brefl _) 1) | exact Sees.of (Nat.le_refl _) (below_drewN (by assumption) _))
    (first
      | (go_at_call 63; (with_reducible refine (t_part_e _ b A n c D m e x (t) (k) ?_ s ?_ ?_ ?_).mono ?_); (exact h); (exact HS.out); (first | omega | decide | assumption); (first | omega | decide | assumption); rintro e w2 ⟨rfl, hb2⟩; replace hb2 := bnext (below_drewN (brefl _) 1) hb2; have q2 : Below w1.heap.size w1 w2 := bnext (brefl w1) hb2; replace h := h.belw hb2; replace h' := h'.belw hb2)
      | (go_at_call 63; (with_reducible refine (t_part_e _ b' A' n' c' D' m' e' x' (t') (k') ?_ s' ?_ ?_ ?_).mono ?_); (exact h'); (exact HS'.out); (first | omega | decide | assumption); (first | omega | decide | assumption); rintro e w3 ⟨rfl, hb3⟩; have q3 : Below w1.heap.size w1 w3 := bnext q2 hb3; replace h := h.belw hb3; replace h' := h'.belw hb3))
  have bw3 : Below w.heap.size w w3 := bw1.trans (q3.mono bw1.size)
  clear cx1_0_0 cx1_0_1 cx1_0_2 cx1_0_3 lx1_0_0 lx1_0_1 lx1_0_2 lx1_0_3 cx1_1_0 cx1_1_1 cx1_1_2 cx1_1_3 lx1_1_0 lx1_1_1 lx1_1_2 lx1_1_3
  replace x1_0 : Blk w3 (w.heap.size) 26 #[.bool b, .slice A n c, .slice D m e, .bool x] := x1_0.below q3 x1_0.lt
  replace x1_1 : Blk w3 (w.heap.size + 1) 26 #[.bool b', .slice A' n' c', .slice D' m' e', .bool x'] := x1_1.below q3 x1_1.lt
  have lw3 : w1.heap.size ≤ w3.heap.size := q3.size
  have cx1_0_0 : w3.cell? ⟨w.heap.size, 0, none⟩ = some (.bool b) := x1_0.cell 0
  have cx1_0_1 : w3.cell? ⟨w.heap.size, 1, none⟩ = some (.slice A n c) := x1_0.cell 1
  have cx1_0_2 : w3.cell? ⟨w.heap.size, 2, none⟩ = some (.slice D m e) := x1_0.cell 2
  have cx1_0_3 : w3.cell? ⟨w.heap.size, 3, none⟩ = some (.bool x) := x1_0.cell 3
  have lx1_0_0 : w.heap.size < w3.heap.size := by have := x1_0.lt; omega
  have lx1_0_1 : w.heap.size < w3.heap.size + 1 := by have := x1_0.lt; omega
  have lx1_0_2 : w.heap.size < w3.heap.size + 2 := by have := x1_0.lt; omega
  have lx1_0_3 : w.heap.size < w3.heap.size + 3 := by have := x1_0.lt; omega
  have cx1_1_0 : w3.cell? ⟨w.heap.size + 1, 0, none⟩ = some (.bool b') := x1_1.cell 0
  have cx1_1_1 : w3.cell? ⟨w.heap.size + 1, 1, none⟩ = some (.slice A' n' c') := x1_1.cell 1
  have cx1_1_2 : w3.cell? ⟨w.heap.size + 1, 2, none⟩ = some (.slice D' m' e') := x1_1.cell 2
  have cx1_1_3 : w3.cell? ⟨w.heap.size + 1, 3, none⟩ = some (.bool x') := x1_1.cell 3
  have lx1_1_0 : w.heap.size + 1 < w3.heap.size := by have := x1_1.lt; omega
  have lx1_1_1 : w.heap.size < w3.heap.size := by have := x1_1.lt; omega
  have lx1_1_2 : w.heap.size < w3.heap.size + 1 := by have := x1_1.lt; omega
  have lx1_1_3 : w.heap.size < w3.heap.size + 2 := by have := x1_1.lt; omega
  go_wp2_with fail
  (with_reducible refine (f_cmp _ b A n c D m e ((t).t) (k) ?_ b' A' n' c' D' m' e' ((t').t) (k') ?_ ?_ ?_ ?_ ?_).mono ?_); (exact h.qz); (exact h'.qz); (first | omega | decide | assumption); (first | omega | decide | assumption); (first | omega | decide | assumption); (first | omega | decide | assumption); rintro e w4 ⟨rfl, hb4⟩
  clear cx1_0_0 cx1_0_1 cx1_0_2 cx1_0_3 lx1_0_0 lx1_0_1 lx1_0_2 lx1_0_3 cx1_1_0 cx1_1_1 cx1_1_2 cx1_1_3 lx1_1_0 lx1_1_1 lx1_1_2 lx1_1_3
  have q4 : Below w3.heap.size w3 w4 := hb4
  replace h := h.belw q4
  replace h' := h'.belw q4
  replace x1_0 : Blk w4 (w.heap.size) 26 #[.bool b, .slice A n c, .slice D m e, .bool x] := x1_0.below q4 x1_0.lt
  replace x1_1 : Blk w4 (w.heap.size + 1) 26 #[.bool b', .slice A' n' c', .slice D' m' e', .bool x'] := x1_1.below q4 x1_1.lt
  have bw4 : Below w.heap.size w w4 := bw3.trans (q4.mono bw3.size)
  have lw4 : w3.heap.size ≤ w4.heap.size := q4.size
  clear hb4 q4 bw3
  go_wp2_with fail
  go_ret
  exact retI HR.out bw4
theorem t_compare (w : World) (b : Bool) (A : Option Addr) (n c : Nat) (D : Option Addr) (m e : Nat) (x : Bool) (t : TN) (k : Nat) (h : TK w b A n c D m e x t k) (b' : Bool) (A' : Option Addr) (n' c' : Nat) (D' : Option Addr) (m' e' : Nat) (x' : Bool) (t' : TN) (k' : Nat) (h' : TK w b' A' n' c' D' m' e' x' t' k') (h0 : 0 < k) (hk : k ≤ 1000000) (h0' : 0 < k') (hk' : k' ≤ 1000000) : Calls Try.prog 41 #[.agg #[.bool b, .slice A n c, .slice D m e, .bool x], .agg #[.bool b', .slice A' n' c', .slice D' m' e', .bool x']] w (RetV w (.int .i64 (tcmp t t'))) := by
  rcases Int.lt_trichotomy (tpart t) (tpart t') with hp | hp | hp
  · have : tcmp t t' = -1 := by unfold tcmp; rw [if_pos hp]
    rw [this]; exact t_compare_lt w b A n c D m e x t k h b' A' n' c' D' m' e' x' t' k' h' h0 hk h0' hk' hp
  · exact t_compare_eq w b A n c D m e x t k h b' A' n' c' D' m' e' x' t' k' h' h0 hk h0' hk' hp
  · have : tcmp t t' = 1 := by unfold tcmp; rw [if_neg (by omega), if_pos hp]
    rw [this]; exact t_compare_gt w b A n c D m e x t k h b' A' n' c' D' m' e' x' t' k' h' h0 hk h0' hk' hp
end Go.Proofs.Ytmneloabphplmaa

/- Walks: comparison of turns that may be refused. -/
namespace Go.Proofs.Ytmneloabphplmaa
open Go Go.RowKit Bn
attribute [local go_sem ↓] Go.wp_at_zero Go.wp_at_succ
set_option maxRecDepth 100000 in
set_option maxHeartbeats 4000000 in
/-- turn.Cmp -/
theorem t_Cmp (w : World) (b : Bool) (A : Option Addr) (n c : Nat) (D : Option Addr) (m e : Nat) (x : Bool) (t : TN) (k : Nat) (h : TK w b A n c D m e x t k) (b' : Bool) (A' : Option Addr) (n' c' : Nat) (D' : Option Addr) (m' e' : Nat) (x' : Bool) (t' : TN) (k' : Nat) (h' : TK w b' A' n' c' D' m' e' x' t' k') (h0 : 0 < k) (hk : k ≤ 400000) (h0' : 0 < k') (hk' : k' ≤ 400000) :
    Calls Try.prog 20 #[.agg #[.bool b, .slice A n c, .slice D m e, .bool x], .agg #[.bool b', .slice A' n' c', .slice D' m' e', .bool x']] w (RetV w (.tuple #[.int .i64 (tcmp t t'), .nilIface])) := by
  go_enter Try.func20, Try.ntmps20
  go_wp2_with fail
  (with_reducible refine (t_checkAll _ (w.heap.size + 1 + 1) 2 ((k) + (k')) ?_ ?_ ?_ ?_).mono ?_); (exact ts2 (blkAt _ _ _ (by simp)) ((h.belw ((((Below.refl _ _).alloc (Nat.le_refl _) _).alloc (by simp) _).alloc (by simp <;> omega) _)).mono (by omega)) ((h'.belw ((((Below.refl _ _).alloc (Nat.le_refl _) _).alloc (by simp) _).alloc (by simp <;> omega) _)).mono (by omega))); (decide); (omega); (omega); rintro e w1 ⟨rfl, hb1⟩
  have q1 : Below w.heap.size w w1 := ((((Below.refl _ _).alloc (Nat.le_refl _) _).alloc (by simp) _).alloc (by simp <;> omega) _).trans (hb1.mono (by simp <;> omega))
  replace h := h.belw q1
  replace h' := h'.belw q1
  have x1_0 : Blk w1 (w.heap.size) 26 #[.bool b, .slice A n c, .slice D m e, .bool x] := (((blkAt _ _ _ (by simp)).alloc _).alloc _).below hb1 (by simp <;> omega)
  have x1_1 : Blk w1 (w.heap.size + 1) 26 #[.bool b', .slice A' n' c', .slice D' m' e', .bool x'] := ((blkAt _ _ _ (by simp)).alloc _).below hb1 (by simp <;> omega)
  have x1_2 : Blk w1 (w.heap.size + 1 + 1) 26 #[.bool b, .slice A n c, .slice D m e, .bool x, .bool b', .slice A' n' c', .slice D' m' e', .bool x'] := (blkAt _ _ _ (by simp)).below hb1 (by simp)
  have bw1 : Below w.heap.size w w1 := (brefl w).trans (q1.mono (brefl w).size)
  have lw1 : w.heap.size + 3 ≤ w1.heap.size := by have := hb1.size; simp at this; omega
  clear hb1 q1
  have cx1_0_0 : w1.cell? ⟨w.heap.size, 0, none⟩ = some (.bool b) := x1_0.cell 0
  have cx1_0_1 : w1.cell? ⟨w.heap.size, 1, none⟩ = some (.slice A n c) := x1_0.cell 1
  have cx1_0_2 : w1.cell? ⟨w.heap.size, 2, none⟩ = some (.slice D m e) := x1_0.cell 2
  have cx1_0_3 : w1.cell? ⟨w.heap.size, 3, none⟩ = some (.bool x) := x1_0.cell 3
  have lx1_0_0 : w.heap.size < w1.heap.size := by have := x1_0.lt; omega
  have lx1_0_1 : w.heap.size < w1.heap.size + 1 := by have := x1_0.lt; omega
  have lx1_0_2 : w.heap.size < w1.heap.size + 2 := by have := x1_0.lt; omega
  have lx1_0_3 : w.heap.size < w1.heap.size + 3 := by have := x1_0.lt; omega
  have cx1_1_0 : w1.cell? ⟨w.heap.size + 1, 0, none⟩ = some (.bool b') := x1_1.cell 0
  have cx1_1_1 : w1.cell? ⟨w.heap.size + 1, 1, none⟩ = some (.slice A' n' c') := x1_1.cell 1
  have cx1_1_2 : w1.cell? ⟨w.heap.size + 1, 2, none⟩ = some (.slice D' m' e') := x1_1.cell 2
  have cx1_1_3 : w1.cell? ⟨w.heap.size + 1, 3, none⟩ = some (.bool x') := x1_1.cell 3
  have lx1_1_0 : w.heap.size + 1 < w1.heap.size := by have := x1_1.lt; omega
  have lx1_1_1 : w.heap.size < w1.heap.size := by have := x1_1.lt; omega
  have lx1_1_2 : w.heap.size < w1.heap.size + 1 := by have := x1_1.lt; omega
  have lx1_1_3 : w.heap.size < w1.heap.size + 2 := by have := x1_1.lt; omega
  go_wp2_with fail
  (with_reducible refine (t_compare _ b A n c D m e x (t) (k) ?_ b' A' n' c' D' m' e' x' (t') (k') ?_ ?_ ?_ ?_ ?_).mono ?_); (exact h); (exact h'); (first | omega | decide | assumption); (first | omega | decide | assumption); (first | omega | decide | assumption); (first | omega | decide | assumption); rintro e w2 ⟨rfl, hb2⟩
  clear cx1_0_0 cx1_0_1 cx1_0_2 cx1_0_3 lx1_0_0 lx1_0_1 lx1_0_2 lx1_0_3 cx1_1_0 cx1_1_1 cx1_1_2 cx1_1_3 lx1_1_0 lx1_1_1 lx1_1_2 lx1_1_3
  have q2 : Below w1.heap.size w1 w2 := hb2
  replace h := h.belw q2
  replace h' := h'.belw q2
  replace x1_0 : Blk w2 (w.heap.size) 26 #[.bool b, .slice A n c, .slice D m e, .bool x] := x1_0.below q2 x1_0.lt
  replace x1_1 : Blk w2 (w.heap.size + 1) 26 #[.bool b', .slice A' n' c', .slice D' m' e', .bool x'] := x1_1.below q2 x1_1.lt
  replace x1_2 : Blk w2 (w.heap.size + 1 + 1) 26 #[.bool b, .slice A n c, .slice D m e, .bool x, .bool b', .slice A' n' c', .slice D' m' e', .bool x'] := x1_2.below q2 x1_2.lt
  have bw2 : Below w.heap.size w w2 := bw1.trans (q2.mono bw1.size)
  have lw2 : w1.heap.size ≤ w2.heap.size := q2.size
  clear hb2 q2 bw1
  go_wp2_with fail
  refine bodyPost_ret (v := .tuple #[.int .i64 (tcmp t t'), .nilIface]) (by simp [results, Try.results20, go_sem, *] <;> first | rfl | exact ⟨rfl, rfl⟩) rfl ?_
  exact ⟨rfl, bw2⟩
end Go.Proofs.Ytmneloabphplmaa

/- Walks: whether a turn lies inside. -/
namespace Go.Proofs.Ytmneloabphplmaa
open Go Go.RowKit Bn
attribute [local go_sem ↓] Go.wp_at_zero Go.wp_at_succ
theorem t_compare_e (w : World) (b : Bool) (A : Option Addr) (n c : Nat) (D : Option Addr) (m e : Nat) (x : Bool) (t : TN) (k : Nat) (h : TK w b A n c D m e x t k) (b' : Bool) (A' : Option Addr) (n' c' : Nat) (D' : Option Addr) (m' e' : Nat) (x' : Bool) (t' : TN) (k' : Nat) (h' : TK w b' A' n' c' D' m' e' x' t' k') (s : Int) (hs : tcmp t t' = s) (h0 : 0 < k) (hk : k ≤ 1000000) (h0' : 0 < k') (hk' : k' ≤ 1000000) : Calls Try.prog 41 #[.agg #[.bool b, .slice A n c, .slice D m e, .bool x], .agg #[.bool b', .slice A' n' c', .slice D' m' e', .bool x']] w (RetV w (.int .i64 s)) := by subst hs; exact t_compare w b A n c D m e x t k h b' A' n' c' D' m' e' x' t' k' h' h0 hk h0' hk'
set_option maxRecDepth 100000 in
set_option maxHeartbeats 4000000 in
/-- turn.Inside -/
theorem t_Inside_eq (w : World) (b : Bool) (A : Option Addr) (n c : Nat) (D : Option Addr) (m e : Nat) (x : Bool) (t : TN) (k : Nat) (h : TK w b A n c D m e x t k) (b' : Bool) (A' : Option Addr) (n' c' : Nat) (D' : Option Addr) (m' e' : Nat) (x' : Bool) (t' : TN) (k' : Nat) (h' : TK w b' A' n' c' D' m' e' x' t' k') (b'' : Bool) (A'' : Option Addr) (n'' c'' : Nat) (D'' : Option Addr) (m'' e'' : Nat) (x'' : Bool) (t'' : TN) (k'' : Nat) (h'' : TK w b'' A'' n'' c'' D'' m'' e'' x'' t'' k'') (h0 : 0 < k) (hk : k ≤ 200000) (h0' : 0 < k') (hk' : k' ≤ 200000) (h0'' : 0 < k'') (hk'' : k'' ≤ 200000) (hs : tcmp t t' = 0) :
    Calls Try.prog 22 #[.agg #[.bool b, .slice A n c, .slice D m e, .bool x], .agg #[.bool b', .slice A' n' c', .slice D' m' e', .bool x'], .agg #[.bool b'', .slice A'' n'' c'', .slice D'' m'' e'', .bool x'']] w (RetV w (.tuple #[.bool true, .nilIface])) := by
  have HS := Lib.hid hs
  clear hs
  go_enter Try.func22, Try.ntmps22
  go_wp2_with fail
  (with_reducible refine (t_checkAll _ (w.heap.size + 1 + 1 + 1) 3 ((k) + (k') + (k'')) ?_ ?_ ?_ ?_).mono ?_); (exact ts3 (blkAt _ _ _ (by simp)) ((h.belw (((((Below.refl _ _).alloc (Nat.le_refl _) _).alloc (by simp) _).alloc (by simp <;> omega) _).alloc (by simp <;> omega) _)).mono (by omega)) ((h'.belw (((((Below.refl _ _).alloc (Nat.le_refl _) _).alloc (by simp) _).alloc (by simp <;> omega) _).alloc (by simp <;> omega) _)).mono (by omega)) ((h''.belw (((((Below.refl _ _).alloc (Nat.le_refl _) _).alloc (by simp) _).alloc (by simp <;> omega) _).alloc (by simp <;> omega) _)).mono (by omega))); (decide); (omega); (omega); rintro e w1 ⟨rfl, hb1⟩
  have q1 : Below w.heap.size w w1 := (((((Below.refl _ _).alloc (Nat.le_refl _) _).alloc (by simp) _).alloc (by simp <;> omega) _).alloc (by simp <;> omega) _).trans (hb1.mono (by simp <;> omega))
  replace h := h.belw q1
  replace h' := h'.belw q1
  replace h'' := h''.belw q1
  have x1_0 : Blk w1 (w.heap.size) 26 #[.bool b, .slice A n c, .slice D m e, .bool x] := ((((blkAt _ _ _ (by simp)).alloc _).alloc _).alloc _).below hb1 (by simp <;> omega)
  have x1_1 : Blk w1 (w.heap.size + 1) 26 #[.bool b', .slice A' n' c', .slice D' m' e', .bool x'] := (((blkAt _ _ _ (by simp)).alloc _).alloc _).below hb1 (by simp <;> omega)
  have x1_2 : Blk w1 (w.heap.size + 1 + 1) 26 #[.bool b'', .slice A'' n'' c'', .slice D'' m'' e'', .bool x''] := ((blkAt _ _ _ (by simp)).alloc _).below hb1 (by simp <;> omega)
  have x1_3 : Blk w1 (w.heap.size + 1 + 1 + 1) 26 #[.bool b, .slice A n c, .slice D m e, .bool x, .bool b', .slice A' n' c', .slice D' m' e', .bool x', .bool b'', .slice A'' n'' c'', .slice D'' m'' e'', .bool x''] := (blkAt _ _ _ (by simp)).below hb1 (by simp)
  have bw1 : Below w.heap.size w w1 := (brefl w).trans (q1.mono (brefl w).size)
  have lw1 : w.heap.size + 4 ≤ w1.heap.size := by have := hb1.size; simp at this; omega
  clear hb1 q1
  have cx1_0_0 : w1.cell? ⟨w.heap.size, 0, none⟩ = some (.bool b) := x1_0.cell 0
  have cx1_0_1 : w1.cell? ⟨w.heap.size, 1, none⟩ = some (.slice A n c) := x1_0.cell 1
  have cx1_0_2 : w1.cell? ⟨w.heap.size, 2, none⟩ = some (.slice D m e) := x1_0.cell 2
  have cx1_0_3 : w1.cell? ⟨w.heap.size, 3, none⟩ = some (.bool x) := x1_0.cell 3
  have lx1_0_0 : w.heap.size < w1.heap.size := by have := x1_0.lt; omega
  have lx1_0_1 : w.heap.size < w1.heap.size + 1 := by have := x1_0.lt; omega
  have lx1_0_2 : w.heap.size < w1.heap.size + 2 := by have := x1_0.lt; omega
  have lx1_0_3 : w.heap.size < w1.heap.size + 3 := by have := x1_0.lt; omega
  have cx1_1_0 : w1.cell? ⟨w.heap.size + 1, 0, none⟩ = some (.bool b') := x1_1.cell 0
  have cx1_1_1 : w1.cell? ⟨w.heap.size + 1, 1, none⟩ = some (.slice A' n' c') := x1_1.cell 1
  have cx1_1_2 : w1.cell? ⟨w.heap.size + 1, 2, none⟩ = some (.slice D' m' e') := x1_1.cell 2
  have cx1_1_3 : w1.cell? ⟨w.heap.size + 1, 3, none⟩ = some (.bool x') := x1_1.cell 3
  have lx1_1_0 : w.heap.size + 1 < w1.heap.size := by have := x1_1.lt; omega
  have lx1_1_1 : w.heap.size < w1.heap.size := by have := x1_1.lt; omega
  have lx1_1_2 : w.heap.size < w1.heap.size + 1 := by have := x1_1.lt; omega
  have lx1_1_3 : w.heap.size < w1.heap.size + 2 := by have := x1_1.lt; omega
  go_wp2_with fail
  (with_reducible refine (t_compare_e _ b A n c D m e x (t) (k) ?_ b' A' n' c' D' m' e' x' (t') (k') ?_ (0) ?_ ?_ ?_ ?_ ?_).mono ?_); (exact h); (exact h'); (exact HS.out); (first | omega | decide | assumption); (first | omega | decide | assumption); (first | omega | decide | assumption); (first | omega | decide | assumption); rintro e w2 ⟨rfl, hb2⟩
  clear cx1_0_0 cx1_0_1 cx1_0_2 cx1_0_3 lx1_0_0 lx1_0_1 lx1_0_2 lx1_0_3 cx1_1_0 cx1_1_1 cx1_1_2 cx1_1_3 lx1_1_0 lx1_1_1 lx1_1_2 lx1_1_3
  have q2 : Below w1.heap.size w1 w2 := hb2
  replace h := h.belw q2
  replace h' := h'.belw q2
  replace h'' := h''.belw q2
  replace x1_0 : Blk w2 (w.heap.size) 26 #[.bool b, .slice A n c, .slice D m e, .bool x] := x1_0.below q2 x1_0.lt
  replace x1_1 : Blk w2 (w.heap.size + 1) 26 #[.bool b', .slice A' n' c', .slice D' m' e', .bool x'] := x1_1.below q2 x1_1.lt
  replace x1_2 : Blk w2 (w.heap.size + 1 + 1) 26 #[.bool b'', .slice A'' n'' c'', .slice D'' m'' e'', .bool x''] := x1_2.below q2 x1_2.lt
  replace x1_3 : Blk w2 (w.heap.size + 1 + 1 + 1) 26 #[.bool b, .slice A n c, .slice D m e, .bool x, .bool b', .slice A' n' c', .slice D' m' e', .bool x', .bool b'', .slice A'' n'' c'', .slice D'' m'' e'', .bool x''] := x1_3.below q2 x1_3.lt
  have bw2 : Below w.heap.size w w2 := bw1.trans (q2.mono bw1.size)
  have lw2 : w1.heap.size ≤ w2.heap.size := q2.size
  clear hb2 q2 bw1
  go_wp2_with fail
  refine bodyPost_ret (v := .tuple #[.bool true, .nilIface]) (by simp [results, Try.results22, go_sem, *] <;> first | rfl | exact ⟨rfl, rfl⟩) rfl ?_
  exact ⟨rfl, bw2⟩
set_option maxRecDepth 100000 in
set_option maxHeartbeats 4000000 in
/-- turn.Inside -/
theorem t_Inside_ne (w : World) (b : Bool) (A : Option Addr) (n c : Nat) (D : Option Addr) (m e : Nat) (x : Bool) (t : TN) (k : Nat) (h : TK w b A n c D m e x t k) (b' : Bool) (A' : Option Addr) (n' c' : Nat) (D' : Option Addr) (m' e' : Nat) (x' : Bool) (t' : TN) (k' : Nat) (h' : TK w b' A' n' c' D' m' e' x' t' k') (b'' : Bool) (A'' : Option Addr) (n'' c'' : Nat) (D'' : Option Addr) (m'' e'' : Nat) (x'' : Bool) (t'' : TN) (k'' : Nat) (h'' : TK w b'' A'' n'' c'' D'' m'' e'' x'' t'' k'') (h0 : 0 < k) (hk : k ≤ 200000) (h0' : 0 < k') (hk' : k' ≤ 200000) (h0'' : 0 < k'') (hk'' : k'' ≤ 200000) (s s1 : Int) (hs : tcmp t t' = s) (hn : s ≠ 0) (hs1 : tcmp (tadd t'' (tneg t)) (tadd t' (tneg t)) = s1) :
    Calls Try.prog 22 #[.agg #[.bool b, .slice A n c, .slice D m e, .bool x], .agg #[.bool b', .slice A' n' c', .slice D' m' e', .bool x'], .agg #[.bool b'', .slice A'' n'' c'', .slice D'' m'' e'', .bool x'']] w (RetV w (.tuple #[.bool (decide (s1 ≤ 0)), .nilIface])) := by
  have HS := Lib.hid hs
  have HS1 := Lib.hid hs1
  have e0 : ((s : Int) == 0) = false := by simp; exact hn
  clear hs hs1 hn
  go_enter Try.func22, Try.ntmps22
  go_wp2_with fail
  (with_reducible refine (t_checkAll _ (w.heap.size + 1 + 1 + 1) 3 ((k) + (k') + (k'')) ?_ ?_ ?_ ?_).mono ?_); (exact ts3 (blkAt _ _ _ (by simp)) ((h.belw (((((Below.refl _ _).alloc (Nat.le_refl _) _).alloc (by simp) _).alloc (by simp <;> omega) _).alloc (by simp <;> omega) _)).mono (by omega)) ((h'.belw (((((Below.refl _ _).alloc (Nat.le_refl _) _).alloc (by simp) _).alloc (by simp <;> omega) _).alloc (by simp <;> omega) _)).mono (by omega)) ((h''.belw (((((Below.refl _ _).alloc (Nat.le_refl _) _).alloc (by simp) _).alloc (by simp <;> omega) _).alloc (by simp <;> omega) _)).mono (by omega))); (decide); (omega); (omega); rintro e w1 ⟨rfl, hb1⟩
  have q1 : Below w.heap.size w w1 := (((((Below.refl _ _).alloc (Nat.le_refl _) _).alloc (by simp) _).alloc (by simp <;> omega) _).alloc (by simp <;> omega) _).trans (hb1.mono (by simp <;> omega))
  replace h := h.belw q1
  replace h' := h'.belw q1
  replace h'' := h''.belw q1
  have x1_0 : Blk w1 (w.heap.size) 26 #[.bool b, .slice A n c, .slice D m e, .bool x] := ((((blkAt _ _ _ (by simp)).alloc _).alloc _).alloc _).below hb1 (by simp <;> omega)
  have x1_1 : Blk w1 (w.heap.size + 1) 26 #[.bool b', .slice A' n' c', .slice D' m' e', .bool x'] := (((blkAt _ _ _ (by simp)).alloc _).alloc _).below hb1 (by simp <;> omega)
  have x1_2 : Blk w1 (w.heap.size + 1 + 1) 26 #[.bool b'', .slice A'' n'' c'', .slice D'' m'' e'', .bool x''] := ((blkAt _ _ _ (by simp)).alloc _).below hb1 (by simp <;> omega)
  have x1_3 : Blk w1 (w.heap.size + 1 + 1 + 1) 26 #[.bool b, .slice A n c, .slice D m e, .bool x, .bool b', .slice A' n' c', .slice D' m' e', .bool x', .bool b'', .slice A'' n'' c'', .slice D'' m'' e'', .bool x''] := (blkAt _ _ _ (by simp)).below hb1 (by simp)
  have bw1 : Below w.heap.size w w1 := (brefl w).trans (q1.mono (brefl w).size)
  have lw1 : w.heap.size + 4 ≤ w1.heap.size := by have := hb1.size; simp at this; omega
  clear hb1 q1
  have cx1_0_0 : w1.cell? ⟨w.heap.size, 0, none⟩ = some (.bool b) := x1_0.cell 0
  have cx1_0_1 : w1.cell? ⟨w.heap.size, 1, none⟩ = some (.slice A n c) := x1_0.cell 1
  have cx1_0_2 : w1.cell? ⟨w.heap.size, 2, none⟩ = some (.slice D m e) := x1_0.cell 2
  have cx1_0_3 : w1.cell? ⟨w.heap.size, 3, none⟩ = some (.bool x) := x1_0.cell 3
  have lx1_0_0 : w.heap.size < w1.heap.size := by have := x1_0.lt; omega
  have lx1_0_1 : w.heap.size < w1.heap.size + 1 := by have := x1_0.lt; omega
  have lx1_0_2 : w.heap.size < w1.heap.size + 2 := by have := x1_0.lt; omega
  have lx1_0_3 : w.heap.size < w1.heap.size + 3 := by have := x1_0.lt; omega
  have cx1_1_0 : w1.cell? ⟨w.heap.size + 1, 0, none⟩ = some (.bool b') := x1_1.cell 0
  have cx1_1_1 : w1.cell? ⟨w.heap.size + 1, 1, none⟩ = some (.slice A' n' c') := x1_1.cell 1
  have cx1_1_2 : w1.cell? ⟨w.heap.size + 1, 2, none⟩ = some (.slice D' m' e') := x1_1.cell 2
  have cx1_1_3 : w1.cell? ⟨w.heap.size + 1, 3, none⟩ = some (.bool x') := x1_1.cell 3
  have lx1_1_0 : w.heap.size + 1 < w1.heap.size := by have := x1_1.lt; omega
  have lx1_1_1 : w.heap.size < w1.heap.size := by have := x1_1.lt; omega
  have lx1_1_2 : w.heap.size < w1.heap.size + 1 := by have := x1_1.lt; omega
  have lx1_1_3 : w.heap.size < w1.heap.size + 2 := by have := x1_1.lt; omega
  go_wp2_with fail
  (with_reducible refine (t_compare_e _ b A n c D m e x (t) (k) ?_ b' A' n' c' D' m' e' x' (t') (k') ?_ (s) ?_ ?_ ?_ ?_ ?_).mono ?_); (exact h); (exact h'); (exact HS.out); (first | omega | decide | assumption); (first | omega | decide | assumption); (first | omega | decide | assumption); (first | omega | decide | assumption); rintro e w2 ⟨rfl, hb2⟩
  clear cx1_0_0 cx1_0_1 cx1_0_2 cx1_0_3 lx1_0_0 lx1_0_1 lx1_0_2 lx1_0_3 cx1_1_0 cx1_1_1 cx1_1_2 cx1_1_3 lx1_1_0 lx1_1_1 lx1_1_2 lx1_1_3
  have q2 : Below w1.heap.size w1 w2 := hb2
  replace h := h.belw q2
  replace h' := h'.belw q2
  replace h'' := h''.belw q2
  replace x1_0 : Blk w2 (w.heap.size) 26 #[.bool b, .slice A n c, .slice D m e, .bool x] := x1_0.below q2 x1_0.lt
  replace x1_1 : Blk w2 (w.heap.size + 1) 26 #[.bool b', .slice A' n' c', .slice D' m' e', .bool x'] := x1_1.below q2 x1_1.lt
  replace x1_2 : Blk w2 (w.heap.size + 1 + 1) 26 #[.bool b'', .slice A'' n'' c'', .slice D'' m'' e'', .bool x''] := x1_2.below q2 x1_2.lt
  replace x1_3 : Blk w2 (w.heap.size + 1 + 1 + 1) 26 #[.bool b, .slice A n c, .slice D m e, .bool x, .bool b', .slice A' n' c', .slice D' m' e', .bool x', .bool b'', .slice A'' n'' c'', .slice D'' m'' e'', .bool x''] := x1_3.below q2 x1_3.lt
  have bw2 : Below w.heap.size w w2 := bw1.trans (q2.mono bw1.size)
  have lw2 : w1.heap.size ≤ w2.heap.size := q2.size
  clear hb2 q2 bw1
  have cx1_0_0 : w2.cell? ⟨w.heap.size, 0, none⟩ = some (.bool b) := x1_0.cell 0
  have cx1_0_1 : w2.cell? ⟨w.heap.size, 1, none⟩ = some (.slice A n c) := x1_0.cell 1
  have cx1_0_2 : w2.cell? ⟨w.heap.size, 2, none⟩ = some (.slice D m e) := x1_0.cell 2
  have cx1_0_3 : w2.cell? ⟨w.heap.size, 3, none⟩ = some (.bool x) := x1_0.cell 3
  have lx1_0_0 : w.heap.size < w2.heap.size := by have := x1_0.lt; omega
  have lx1_0_1 : w.heap.size < w2.heap.size + 1 := by have := x1_0.lt; omega
  have lx1_0_2 : w.heap.size < w2.heap.size + 2 := by have := x1_0.lt; omega
  have lx1_0_3 : w.heap.size < w2.heap.size + 3 := by have := x1_0.lt; omega
  go_wp2_with fail
  (with_reducible refine (t_neg _ b A n c D m e x (t) (k) ?_ ?_ ?_).mono ?_); (exact h); (first | omega | decide | assumption); (first | omega | decide | assumption); rintro e w3 ⟨b3, A3, n3, c3, A'3, n'3, c'3, x3, rfl, h3, hb3⟩
  clear cx1_0_0 cx1_0_1 cx1_0_2 cx1_0_3 lx1_0_0 lx1_0_1 lx1_0_2 lx1_0_3
  have q3 : Below w2.heap.size w2 w3 := hb3
  replace h := h.belw q3
  replace h' := h'.belw q3
  replace h'' := h''.belw q3
  replace x1_0 : Blk w3 (w.heap.size) 26 #[.bool b, .slice A n c, .slice D m e, .bool x] := x1_0.below q3 x1_0.lt
  replace x1_1 : Blk w3 (w.heap.size + 1) 26 #[.bool b', .slice A' n' c', .slice D' m' e', .bool x'] := x1_1.below q3 x1_1.lt
  replace x1_2 : Blk w3 (w.heap.size + 1 + 1) 26 #[.bool b'', .slice A'' n'' c'', .slice D'' m'' e'', .bool x''] := x1_2.below q3 x1_2.lt
  replace x1_3 : Blk w3 (w.heap.size + 1 + 1 + 1) 26 #[.bool b, .slice A n c, .slice D m e, .bool x, .bool b', .slice A' n' c', .slice D' m' e', .bool x', .bool b'', .slice A'' n'' c'', .slice D'' m'' e'', .bool x''] := x1_3.below q3 x1_3.lt
  have bw3 : Below w.heap.size w w3 := bw2.trans (q3.mono bw2.size)
  have lw3 : w2.heap.size ≤ w3.heap.size := q3.size
  clear hb3 q3 bw2
  go_wp2_with fail
  have p4 : Kp w3 (w3.alloc (.cells #[.bool b3, .slice A3 n3 c3, .slice A'3 n'3 c'3, .bool x3] 26)) := ((Kp.refl w3).alloc (.cells #[.bool b3, .slice A3 n3 c3, .slice A'3 n'3 c'3, .bool x3] 26))
  have bw4 : Below w.heap.size w (w3.alloc (.cells #[.bool b3, .slice A3 n3 c3, .slice A'3 n'3 c'3, .bool x3] 26)) := (bw3.alloc (by first | omega | (simp <;> omega)) (.cells #[.bool b3, .slice A3 n3 c3, .slice A'3 n'3 c'3, .bool x3] 26))
  have x4_0 : Blk (w3.alloc (.cells #[.bool b3, .slice A3 n3 c3, .slice A'3 n'3 c'3, .bool x3] 26)) (w3.heap.size) 26 #[.bool b3, .slice A3 n3 c3, .slice A'3 n'3 c'3, .bool x3] := (blkAt _ _ _ (by simp))
  replace x1_0 : Blk (w3.alloc (.cells #[.bool b3, .slice A3 n3 c3, .slice A'3 n'3 c'3, .bool x3] 26)) (w.heap.size) 26 #[.bool b, .slice A n c, .slice D m e, .bool x] := (x1_0.alloc (.cells #[.bool b3, .slice A3 n3 c3, .slice A'3 n'3 c'3, .bool x3] 26))
  replace x1_1 : Blk (w3.alloc (.cells #[.bool b3, .slice A3 n3 c3, .slice A'3 n'3 c'3, .bool x3] 26)) (w.heap.size + 1) 26 #[.bool b', .slice A' n' c', .slice D' m' e', .bool x'] := (x1_1.alloc (.cells #[.bool b3, .slice A3 n3 c3, .slice A'3 n'3 c'3, .bool x3] 26))
  replace x1_2 : Blk (w3.alloc (.cells #[.bool b3, .slice A3 n3 c3, .slice A'3 n'3 c'3, .bool x3] 26)) (w.heap.size + 1 + 1) 26 #[.bool b'', .slice A'' n'' c'', .slice D'' m'' e'', .bool x''] := (x1_2.alloc (.cells #[.bool b3, .slice A3 n3 c3, .slice A'3 n'3 c'3, .bool x3] 26))
  replace x1_3 : Blk (w3.alloc (.cells #[.bool b3, .slice A3 n3 c3, .slice A'3 n'3 c'3, .bool x3] 26)) (w.heap.size + 1 + 1 + 1) 26 #[.bool b, .slice A n c, .slice D m e, .bool x, .bool b', .slice A' n' c', .slice D' m' e', .bool x', .bool b'', .slice A'' n'' c'', .slice D'' m'' e'', .bool x''] := (x1_3.alloc (.cells #[.bool b3, .slice A3 n3 c3, .slice A'3 n'3 c'3, .bool x3] 26))
  have lw4 : w3.heap.size + 1 ≤ (w3.alloc (.cells #[.bool b3, .slice A3 n3 c3, .slice A'3 n'3 c'3, .bool x3] 26)).heap.size := by simp
  generalize hE4 : (w3.alloc (.cells #[.bool b3, .slice A3 n3 c3, .slice A'3 n'3 c'3, .bool x3] 26)) = w4 at p4 bw4 lw4 x4_0 x1_0 x1_1 x1_2 x1_3 ⊢
  clear hE4
  replace h := h.keep p4
  replace h' := h'.keep p4
  replace h'' := h''.keep p4
  replace h3 := h3.keep p4
  clear bw3
  have lx1_0_0 : w.heap.size < w4.heap.size := by have := x1_0.lt; omega
  have lx1_0_1 : w.heap.size < w4.heap.size + 1 := by have := x1_0.lt; omega
  have lx1_0_2 : w.heap.size < w4.heap.size + 2 := by have := x1_0.lt; omega
  have lx1_0_3 : w.heap.size < w4.heap.size + 3 := by have := x1_0.lt; omega
  have cx1_1_0 : w4.cell? ⟨w.heap.size + 1, 0, none⟩ = some (.bool b') := x1_1.cell 0
  have cx1_1_1 : w4.cell? ⟨w.heap.size + 1, 1, none⟩ = some (.slice A' n' c') := x1_1.cell 1
  have cx1_1_2 : w4.cell? ⟨w.heap.size + 1, 2, none⟩ = some (.slice D' m' e') := x1_1.cell 2
  have cx1_1_3 : w4.cell? ⟨w.heap.size + 1, 3, none⟩ = some (.bool x') := x1_1.cell 3
  have lx1_1_0 : w.heap.size + 1 < w4.heap.size := by have := x1_1.lt; omega
  have lx1_1_1 : w.heap.size < w4.heap.size := by have := x1_1.lt; omega
  have lx1_1_2 : w.heap.size < w4.heap.size + 1 := by have := x1_1.lt; omega
  have lx1_1_3 : w.heap.size < w4.heap.size + 2 := by have := x1_1.lt; omega
  have cx1_2_0 : w4.cell? ⟨w.heap.size + 1 + 1, 0, none⟩ = some (.bool b'') := x1_2.cell 0
  have cx1_2_1 : w4.cell? ⟨w.heap.size + 1 + 1, 1, none⟩ = some (.slice A'' n'' c'') := x1_2.cell 1
  have cx1_2_2 : w4.cell? ⟨w.heap.size + 1 + 1, 2, none⟩ = some (.slice D'' m'' e'') := x1_2.cell 2
  have cx1_2_3 : w4.cell? ⟨w.heap.size + 1 + 1, 3, none⟩ = some (.bool x'') := x1_2.cell 3
  have lx1_2_0 : w.heap.size + 2 < w4.heap.size := by have := x1_2.lt; omega
  have lx1_2_1 : w.heap.size + 1 < w4.heap.size := by have := x1_2.lt; omega
  have lx1_2_2 : w.heap.size < w4.heap.size := by have := x1_2.lt; omega
  have lx1_2_3 : w.heap.size < w4.heap.size + 1 := by have := x1_2.lt; omega
  have lx1_3_0 : w.heap.size + 3 < w4.heap.size := by have := x1_3.lt; omega
  have lx1_3_1 : w.heap.size + 2 < w4.heap.size := by have := x1_3.lt; omega
  have lx1_3_2 : w.heap.size + 1 < w4.heap.size := by have := x1_3.lt; omega
  have lx1_3_3 : w.heap.size < w4.heap.size := by have := x1_3.lt; omega
  have cx4_0_0 : w4.cell? ⟨w3.heap.size, 0, none⟩ = some (.bool b3) := x4_0.cell 0
  have cx4_0_1 : w4.cell? ⟨w3.heap.size, 1, none⟩ = some (.slice A3 n3 c3) := x4_0.cell 1
  have cx4_0_2 : w4.cell? ⟨w3.heap.size, 2, none⟩ = some (.slice A'3 n'3 c'3) := x4_0.cell 2
  have cx4_0_3 : w4.cell? ⟨w3.heap.size, 3, none⟩ = some (.bool x3) := x4_0.cell 3
  have lx4_0_0 : w3.heap.size < w4.heap.size := by have := x4_0.lt; omega
  have lx4_0_1 : w3.heap.size < w4.heap.size + 1 := by have := x4_0.lt; omega
  have lx4_0_2 : w3.heap.size < w4.heap.size + 2 := by have := x4_0.lt; omega
  have lx4_0_3 : w3.heap.size < w4.heap.size + 3 := by have := x4_0.lt; omega
  go_region_held3 (fun w' => Sees w4.heap.size w4 w') (first | with_reducible exact Sees.of (Nat.le_refl _) (by assumption) | with_reducible exact Sees.of (Nat.le_refl _) (brefl _).drew | exact Sees.of (Nat.le_refl _) (below_drewN (brefl _) 1) | exact Sees.of (Nat.le_refl _) (below_drewN (by assumption) _))
    (first
      | (go_at_call 27; (with_reducible refine (t_add _ b'' A'' n'' c'' D'' m'' e'' x'' (t'') (k'') ?_ b3 A3 n3 c3 A'3 n'3 c'3 x3 (tneg (t)) ((k)) ?_ ?_ ?_ ?_ ?_).mono ?_); (exact h''); (exact h3.tk); (first | omega | decide | assumption); (first | omega | decide | assumption); (first | omega | decide | assumption); (first | omega | decide | assumption); rintro e w5 ⟨b5, A5, n5, c5, A'5, n'5, c'5, x5, rfl, h5, hb5⟩; replace hb5 := bnext (below_drewN (brefl _) 1) hb5; have q5 : Below w4.heap.size w4 w5 := bnext (brefl w4) hb5; replace h := h.belw hb5; replace h' := h'.belw hb5; replace h'' := h''.belw hb5; replace h3 := h3.belw hb5)
      | (go_at_call 27; (with_reducible refine (t_add _ b' A' n' c' D' m' e' x' (t') (k') ?_ b3 A3 n3 c3 A'3 n'3 c'3 x3 (tneg (t)) ((k)) ?_ ?_ ?_ ?_ ?_).mono ?_); (exact h'); (exact h3.tk); (first | omega | decide | assumption); (first | omega | decide | assumption); (first | omega | decide | assumption); (first | omega | decide | assumption); rintro e w6 ⟨b6, A6, n6, c6, A'6, n'6, c'6, x6, rfl, h6, hb6⟩; have q6 : Below w4.heap.size w4 w6 := bnext q5 hb6; replace h := h.belw hb6; replace h' := h'.belw hb6; replace h'' := h''.belw hb6; replace h3 := h3.belw hb6; replace h5 := h5.belw hb6)
      | (go_at_call 41; (with_reducible refine (t_compare_e _ b5 A5 n5 c5 A'5 n'5 c'5 x5 (tadd ((t'')) ((tneg (t)))) (2 * (k'') + 2 * ((k)) + 3) ?_ b6 A6 n6 c6 A'6 n'6 c'6 x6 (tadd ((t')) ((tneg (t)))) (2 * (k') + 2 * ((k)) + 3) ?_ (s1) ?_ ?_ ?_ ?_ ?_).mono ?_); (exact h5.tk); (exact h6.tk); (exact HS1.out); (first | omega | decide | assumption); (first | omega | decide | assumption); (first | omega | decide | assumption); (first | omega | decide | assumption); rintro e w7 ⟨rfl, hb7⟩; have q7 : Below w4.heap.size w4 w7 := bnext q6 hb7; replace h := h.belw hb7; replace h' := h'.belw hb7; replace h'' := h''.belw hb7; replace h3 := h3.belw hb7; replace h5 := h5.belw hb7; replace h6 := h6.belw hb7))
  have bw7 : Below w.heap.size w w7 := bw4.trans (q7.mono bw4.size)
  clear lx1_0_0 lx1_0_1 lx1_0_2 lx1_0_3 cx1_1_0 cx1_1_1 cx1_1_2 cx1_1_3 lx1_1_0 lx1_1_1 lx1_1_2 lx1_1_3 cx1_2_0 cx1_2_1 cx1_2_2 cx1_2_3 lx1_2_0 lx1_2_1 lx1_2_2 lx1_2_3 lx1_3_0 lx1_3_1 lx1_3_2 lx1_3_3 cx4_0_0 cx4_0_1 cx4_0_2 cx4_0_3 lx4_0_0 lx4_0_1 lx4_0_2 lx4_0_3
  replace x1_0 : Blk w7 (w.heap.size) 26 #[.bool b, .slice A n c, .slice D m e, .bool x] := x1_0.below q7 x1_0.lt
  replace x1_1 : Blk w7 (w.heap.size + 1) 26 #[.bool b', .slice A' n' c', .slice D' m' e', .bool x'] := x1_1.below q7 x1_1.lt
  replace x1_2 : Blk w7 (w.heap.size + 1 + 1) 26 #[.bool b'', .slice A'' n'' c'', .slice D'' m'' e'', .bool x''] := x1_2.below q7 x1_2.lt
  replace x1_3 : Blk w7 (w.heap.size + 1 + 1 + 1) 26 #[.bool b, .slice A n c, .slice D m e, .bool x, .bool b', .slice A' n' c', .slice D' m' e', .bool x', .bool b'', .slice A'' n'' c'', .slice D'' m'' e'', .bool x''] := x1_3.below q7 x1_3.lt
  replace x4_0 : Blk w7 (w3.heap.size) 26 #[.bool b3, .slice A3 n3 c3, .slice A'3 n'3 c'3, .bool x3] := x4_0.below q7 x4_0.lt
  have lw7 : w4.heap.size ≤ w7.heap.size := q7.size
  go_wp2_with fail
  refine bodyPost_ret (v := .tuple #[.bool (decide (s1 ≤ 0)), .nilIface]) (by simp [results, Try.results22, go_sem, *] <;> first | rfl | exact ⟨rfl, rfl⟩) rfl ?_
  exact ⟨rfl, bw7⟩
theorem t_Inside (w : World) (b : Bool) (A : Option Addr) (n c : Nat) (D : Option Addr) (m e : Nat) (x : Bool) (t : TN) (k : Nat) (h : TK w b A n c D m e x t k) (b' : Bool) (A' : Option Addr) (n' c' : Nat) (D' : Option Addr) (m' e' : Nat) (x' : Bool) (t' : TN) (k' : Nat) (h' : TK w b' A' n' c' D' m' e' x' t' k') (b'' : Bool) (A'' : Option Addr) (n'' c'' : Nat) (D'' : Option Addr) (m'' e'' : Nat) (x'' : Bool) (t'' : TN) (k'' : Nat) (h'' : TK w b'' A'' n'' c'' D'' m'' e'' x'' t'' k'') (h0 : 0 < k) (hk : k ≤ 200000) (h0' : 0 < k') (hk' : k' ≤ 200000) (h0'' : 0 < k'') (hk'' : k'' ≤ 200000) : Calls Try.prog 22 #[.agg #[.bool b, .slice A n c, .slice D m e, .bool x], .agg #[.bool b', .slice A' n' c', .slice D' m' e', .bool x'], .agg #[.bool b'', .slice A'' n'' c'', .slice D'' m'' e'', .bool x'']] w (RetV w (.tuple #[.bool (tinside t t' t''), .nilIface])) := by
  unfold tinside
  by_cases hs : tcmp t t' = 0
  · rw [if_pos hs]; exact t_Inside_eq w b A n c D m e x t k h b' A' n' c' D' m' e' x' t' k' h' b'' A'' n'' c'' D'' m'' e'' x'' t'' k'' h'' h0 hk h0' hk' h0'' hk'' hs
  · rw [if_neg hs]; exact t_Inside_ne w b A n c D m e x t k h b' A' n' c' D' m' e' x' t' k' h' b'' A'' n'' c'' D'' m'' e'' x'' t'' k'' h'' h0 hk h0' hk' h0'' hk'' _ _ rfl hs rfl
end Go.Proofs.Ytmneloabphplmaa

/- Walks: the turn of a cosine and a sine. -/
namespace Go.Proofs.Ytmneloabphplmaa
open Go Go.RowKit Bn
attribute [local go_sem ↓] Go.wp_at_zero Go.wp_at_succ
set_option maxRecDepth 100000 in
set_option maxHeartbeats 4000000 in
/-- turn.of -/
theorem t_of_0 (w : World) (b : Bool) (A : Option Addr) (n c : Nat) (D : Option Addr) (m e : Nat) (q : Rat) (k : Nat) (h : QZ w b A n c D m e q k) (b' : Bool) (A' : Option Addr) (n' c' : Nat) (D' : Option Addr) (m' e' : Nat) (q' : Rat) (k' : Nat) (h' : QZ w b' A' n' c' D' m' e' q' k') (h0 : 0 < k) (hk : k ≤ 1000000) (h0' : 0 < k') (hk' : k' ≤ 1000000) (hz : ((1 : Int) : Rat) + q = 0) :
    Calls Try.prog 37 #[.agg #[.bool b, .slice A n c, .slice D m e], .agg #[.bool b', .slice A' n' c', .slice D' m' e']] w (RetT w (tof q q') (k + k' + 2)) := by
  rw [show tof q q' = thalf by unfold tof; rw [if_pos (by have h1 : (1 : Rat) + q = 0 := hz; grind)]]
  have HZ := Lib.hid (sgn_eq hz)
  clear hz
  go_enter Try.func37, Try.ntmps37
  go_wp2_with fail
  have p1 : Kp w (((w.alloc (.cells #[.bool b, .slice A n c, .slice D m e] 24)).alloc (.cells #[.bool b', .slice A' n' c', .slice D' m' e'] 24)).alloc (.cells #[.bool false, .slice none 0 0, .slice none 0 0, .bool false] 26)) := ((((Kp.refl w).alloc (.cells #[.bool b, .slice A n c, .slice D m e] 24)).alloc (.cells #[.bool b', .slice A' n' c', .slice D' m' e'] 24)).alloc (.cells #[.bool false, .slice none 0 0, .slice none 0 0, .bool false] 26))
  have bw1 : Below w.heap.size w (((w.alloc (.cells #[.bool b, .slice A n c, .slice D m e] 24)).alloc (.cells #[.bool b', .slice A' n' c', .slice D' m' e'] 24)).alloc (.cells #[.bool false, .slice none 0 0, .slice none 0 0, .bool false] 26)) := ((((brefl w).alloc (by first | omega | (simp <;> omega)) (.cells #[.bool b, .slice A n c, .slice D m e] 24)).alloc (by first | omega | (simp <;> omega)) (.cells #[.bool b', .slice A' n' c', .slice D' m' e'] 24)).alloc (by first | omega | (simp <;> omega)) (.cells #[.bool false, .slice none 0 0, .slice none 0 0, .bool false] 26))
  have x1_0 : Blk (((w.alloc (.cells #[.bool b, .slice A n c, .slice D m e] 24)).alloc (.cells #[.bool b', .slice A' n' c', .slice D' m' e'] 24)).alloc (.cells #[.bool false, .slice none 0 0, .slice none 0 0, .bool false] 26)) (w.heap.size) 24 #[.bool b, .slice A n c, .slice D m e] := (((blkAt _ _ _ (by simp)).alloc (.cells #[.bool b', .slice A' n' c', .slice D' m' e'] 24)).alloc (.cells #[.bool false, .slice none 0 0, .slice none 0 0, .bool false] 26))
  have x1_1 : Blk (((w.alloc (.cells #[.bool b, .slice A n c, .slice D m e] 24)).alloc (.cells #[.bool b', .slice A' n' c', .slice D' m' e'] 24)).alloc (.cells #[.bool false, .slice none 0 0, .slice none 0 0, .bool false] 26)) (w.heap.size + 1) 24 #[.bool b', .slice A' n' c', .slice D' m' e'] := ((blkAt _ _ _ (by simp)).alloc (.cells #[.bool false, .slice none 0 0, .slice none 0 0, .bool false] 26))
  have x1_2 : Blk (((w.alloc (.cells #[.bool b, .slice A n c, .slice D m e] 24)).alloc (.cells #[.bool b', .slice A' n' c', .slice D' m' e'] 24)).alloc (.cells #[.bool false, .slice none 0 0, .slice none 0 0, .bool false] 26)) (w.heap.size + 1 + 1) 26 #[.bool false, .slice none 0 0, .slice none 0 0, .bool false] := (blkAt _ _ _ (by simp))
  have lw1 : w.heap.size + 3 ≤ (((w.alloc (.cells #[.bool b, .slice A n c, .slice D m e] 24)).alloc (.cells #[.bool b', .slice A' n' c', .slice D' m' e'] 24)).alloc (.cells #[.bool false, .slice none 0 0, .slice none 0 0, .bool false] 26)).heap.size := by simp
  generalize hE1 : (((w.alloc (.cells #[.bool b, .slice A n c, .slice D m e] 24)).alloc (.cells #[.bool b', .slice A' n' c', .slice D' m' e'] 24)).alloc (.cells #[.bool false, .slice none 0 0, .slice none 0 0, .bool false] 26)) = w1 at p1 bw1 lw1 x1_0 x1_1 x1_2 ⊢
  clear hE1
  replace h := h.keep p1
  replace h' := h'.keep p1
  have cx1_0_0 : w1.cell? ⟨w.heap.size, 0, none⟩ = some (.bool b) := x1_0.cell 0
  have cx1_0_1 : w1.cell? ⟨w.heap.size, 1, none⟩ = some (.slice A n c) := x1_0.cell 1
  have cx1_0_2 : w1.cell? ⟨w.heap.size, 2, none⟩ = some (.slice D m e) := x1_0.cell 2
  have lx1_0_0 : w.heap.size < w1.heap.size := by have := x1_0.lt; omega
  have lx1_0_1 : w.heap.size < w1.heap.size + 1 := by have := x1_0.lt; omega
  have lx1_0_2 : w.heap.size < w1.heap.size + 2 := by have := x1_0.lt; omega
  have lx1_0_3 : w.heap.size < w1.heap.size + 3 := by have := x1_0.lt; omega
  refine wp_region_lin (B := w.heap.size) (fr := fun xf => ⟨List.toArray (.agg #[.bool b, .slice A n c, .slice D m e] :: .agg #[.bool b', .slice A' n' c', .slice D' m' e'] :: .pointer (some ⟨w.heap.size, 0, none⟩) :: .pointer (some ⟨w.heap.size + 1, 0, none⟩) :: .pointer (some ⟨w.heap.size + 1 + 1, 0, none⟩) :: xf 3 :: xf 0 :: xf 1 :: xf 2 :: undef :: undef :: undef :: undef :: undef :: undef :: undef :: undef :: []), []⟩) (R := fun i => List.getD ((VQ (((1 : Int) : Rat)) (1)) :: (PEq (.agg #[.bool b, .slice A n c, .slice D m e])) :: (VQ ((((1 : Int) : Rat)) + (q)) ((1) + (k) + 1)) :: PAny :: PAny :: []) i (fun _ _ => True)) (es := [⟨3, 4, 24, #[.bool false, .slice none 0 0, .slice none 0 0], CQ ((((1 : Int) : Rat)) + (q)) ((1) + (k) + 1)⟩]) (ow := [⟨w.heap.size, 5, 0, 24, #[.bool b, .slice A n c, .slice D m e], CAny⟩, ⟨w.heap.size + 1, 5, 0, 24, #[.bool b', .slice A' n' c', .slice D' m' e'], CAny⟩, ⟨w.heap.size + 1 + 1, 5, 0, 26, #[.bool false, .slice none 0 0, .slice none 0 0, .bool false], CAny⟩]) (x0 := (fun _ => undef)) (by kernel_rfl)
    (each_of ⟨fun _ _ => rfl, fun _ _ => rfl, fun _ _ => rfl, fun _ _ => rfl, fun _ _ => rfl, trivial⟩) (each_of (acyc_from _ 0 (by kernel_rfl))) (AllStab.get _ ⟨stQ _ _, stEq _, stQ _ _, stAny, stAny, trivial⟩)
    (List.forall_mem_cons.2 ⟨scQ _ _, fun _ h => nomatch h⟩) (List.forall_mem_cons.2 ⟨scAny, List.forall_mem_cons.2 ⟨scAny, List.forall_mem_cons.2 ⟨scAny, fun _ h => nomatch h⟩⟩⟩) (List.forall_mem_cons.2 ⟨⟨by simp, by simp⟩, fun _ h => nomatch h⟩) bw1.size
    (List.forall_mem_cons.2 ⟨⟨x1_0, by show w.heap.size ≤ w.heap.size; omega⟩, List.forall_mem_cons.2 ⟨⟨x1_1, by show w.heap.size ≤ w.heap.size + 1; omega⟩, List.forall_mem_cons.2 ⟨⟨x1_2, by show w.heap.size ≤ w.heap.size + 1 + 1; omega⟩, fun _ h => nomatch h⟩⟩⟩) (ownDist (by simp <;> omega))
    (each_of ⟨?_, ?_, ?_, ?_, ?_, trivial⟩) ?_
  · exact .inl ⟨by simp, by simp, fun xf wq hk hbl hd K hK => by
      (try dsimp only)
      go_simp
      go_at_call 19
      (with_reducible refine (f_of _ (1) ?_ ?_).mono ?_); (first | omega | decide | assumption); (first | omega | decide | assumption); rintro e wr ⟨b3, A3, n3, c3, A'3, n'3, c'3, rfl, h3, hbr⟩
      exact hK.out _ _ ⟨b3, A3, n3, c3, A'3, n'3, c'3, rfl, h3⟩ hbr⟩
  · exact .inl ⟨by simp, by simp, fun xf wq hk hbl hd K hK => by
      have y : Blk wq (w.heap.size) 24 #[.bool b, .slice A n c, .slice D m e] := hbl _ (List.Mem.head _) (by simp [Region.binds])
      have hcl0 : wq.cell? ⟨w.heap.size, 0, none⟩ = some (.bool b) := y.cell 0
      have hcl1 : wq.cell? ⟨w.heap.size, 1, none⟩ = some (.slice A n c) := y.cell 1
      have hcl2 : wq.cell? ⟨w.heap.size, 2, none⟩ = some (.slice D m e) := y.cell 2
      (try dsimp only)
      go_simp
      exact hK.out (.agg #[.bool b, .slice A n c, .slice D m e]) _ rfl (brefl _)⟩
  · exact .inl ⟨by simp, by simp, fun xf wq hk hbl hd K hK => by
      obtain ⟨b3, A3, n3, c3, A'3, n'3, c'3, d0, h3⟩ : VQ (((1 : Int) : Rat)) (1) (xf 0) wq := hd ⟨0, .data⟩ (by simp) rfl
      have d1 : xf 1 = .agg #[.bool b, .slice A n c, .slice D m e] := hd ⟨1, .data⟩ (by simp) rfl
      (try dsimp only); (try simp only [d0, d1])
      go_simp
      go_at_call 11
      (with_reducible refine (f_add _ b3 A3 n3 c3 A'3 n'3 c'3 (((1 : Int) : Rat)) (1) ?_ b A n c D m e (q) (k) ?_ ?_ ?_ ?_ ?_).mono ?_); (exact h3.qz); (exact (h.keep hk)); (first | omega | decide | assumption); (first | omega | decide | assumption); (first | omega | decide | assumption); (first | omega | decide | assumption); rintro e wr ⟨b4, A4, n4, c4, A'4, n'4, c'4, rfl, h4, hbr⟩
      have hz := hK.out _ _ ⟨b4, A4, n4, c4, A'4, n'4, c'4, rfl, h4⟩ hbr
      simp only [d0, d1] at hz
      exact hz⟩
  · exact .inr (.inl ⟨⟨3, 4, 24, #[.bool false, .slice none 0 0, .slice none 0 0], CQ ((((1 : Int) : Rat)) + (q)) ((1) + (k) + 1)⟩, by simp, rfl, by simp, by simp, by simp, fun _ _ => True.intro, fun xf wq K hK => by
      (try dsimp only)
      go_simp
      exact hK.out⟩)
  · exact .inr (.inr (.inl ⟨⟨3, 4, 24, #[.bool false, .slice none 0 0, .slice none 0 0], CQ ((((1 : Int) : Rat)) + (q)) ((1) + (k) + 1)⟩, by simp, rfl, by simp, by simp, by simp, by simp, (show KT 24 = false by decide), fun _ _ => True.intro, ⟨⟨3, .data⟩, by simp, rfl, rfl⟩, fun xf wq g hx hblk hd => by
      obtain ⟨b4, A4, n4, c4, A'4, n'4, c'4, d2, h4⟩ : VQ ((((1 : Int) : Rat)) + (q)) ((1) + (k) + 1) (xf 2) wq := hd ⟨2, .data⟩ (by simp) rfl
      dsimp only at hx hblk
      refine ⟨[.bool b4, .slice A4 n4 c4, .slice A'4 n'4 c'4], fun w' hk => ⟨b4, A4, n4, c4, A'4, n'4, c'4, rfl, h4.keep hk⟩, fun K hK => ?_⟩
      have hc0 : wq.cell? ⟨g, 0, none⟩ = some (.bool false) := hblk.cell 0
      have hc1 : wq.cell? ⟨g, 1, none⟩ = some (.slice none 0 0) := hblk.cell 1
      have hc2 : wq.cell? ⟨g, 2, none⟩ = some (.slice none 0 0) := hblk.cell 2
      have hf0 : wq.frozen? ⟨g, 0, none⟩ = false := hblk.frozen 0
      have hf1 : wq.frozen? ⟨g, 1, none⟩ = false := hblk.frozen 1
      have hf2 : wq.frozen? ⟨g, 2, none⟩ = false := hblk.frozen 2
      (try dsimp only)
      simp only [hx, d2]
      go_simp
      have hz := hK.out undef
      simp only [hx, d2] at hz
      exact hz⟩))
  clear cx1_0_0 cx1_0_1 cx1_0_2 lx1_0_0 lx1_0_1 lx1_0_2 lx1_0_3
  intro y2 w2 kq2 hbl2 lw2 how hrr hfl hds
  replace h := h.keep kq2
  replace h' := h'.keep kq2
  obtain ⟨_, z2_0, ez, _⟩ := how _ (List.Mem.head _)
  obtain rfl := ez (by simp)
  dsimp only at z2_0
  obtain ⟨_, z2_1, ez, _⟩ := how _ (List.Mem.tail _ (List.Mem.head _))
  obtain rfl := ez (by simp)
  dsimp only at z2_1
  obtain ⟨_, z2_2, ez, _⟩ := how _ (List.Mem.tail _ (List.Mem.tail _ (List.Mem.head _)))
  obtain rfl := ez (by simp)
  dsimp only at z2_2
  obtain ⟨g5_2, _, eg5_2, Gg5_2, xg5_2, ⟨b4, A4, n4, c4, A'4, n'4, c'4, rfl, h4⟩⟩ := hfl _ (List.Mem.head _)
  dsimp only at eg5_2 Gg5_2 xg5_2
  have lgg5_2 : g5_2 < w2.heap.size := xg5_2.lt
  (try dsimp only)
  simp only [eg5_2]
  clear hrr hfl how hds eg5_2
  clear x1_0 x1_1 x1_2
  have bw2 : Below w.heap.size w w2 := bw1.trans hbl2
  clear bw1
  have cxg5_2_0 : w2.cell? ⟨g5_2, 0, none⟩ = some (.bool b4) := xg5_2.cell 0
  have cxg5_2_1 : w2.cell? ⟨g5_2, 1, none⟩ = some (.slice A4 n4 c4) := xg5_2.cell 1
  have cxg5_2_2 : w2.cell? ⟨g5_2, 2, none⟩ = some (.slice A'4 n'4 c'4) := xg5_2.cell 2
  have lxg5_2_0 : g5_2 < w2.heap.size := by have := xg5_2.lt; omega
  have lxg5_2_1 : g5_2 < w2.heap.size + 1 := by have := xg5_2.lt; omega
  have lxg5_2_2 : g5_2 < w2.heap.size + 2 := by have := xg5_2.lt; omega
  have lxg5_2_3 : g5_2 < w2.heap.size + 3 := by have := xg5_2.lt; omega
  go_wp2_with fail
  (with_reducible refine (f_sign_e _ b4 A4 n4 c4 A'4 n'4 c'4 ((((1 : Int) : Rat)) + (q)) ((1) + (k) + 1) ?_ (0) ?_ ?_ ?_).mono ?_); (exact h4.qz); (exact HZ.out); (first | omega | decide | assumption); (first | omega | decide | assumption); rintro e w6 ⟨rfl, hb6⟩
  clear cxg5_2_0 cxg5_2_1 cxg5_2_2 lxg5_2_0 lxg5_2_1 lxg5_2_2 lxg5_2_3
  have q6 : Below w2.heap.size w2 w6 := hb6
  replace h := h.belw q6
  replace h' := h'.belw q6
  replace h4 := h4.belw q6
  replace z2_0 : Blk w6 (w.heap.size) 24 #[.bool b, .slice A n c, .slice D m e] := z2_0.below q6 z2_0.lt
  replace z2_1 : Blk w6 (w.heap.size + 1) 24 #[.bool b', .slice A' n' c', .slice D' m' e'] := z2_1.below q6 z2_1.lt
  replace z2_2 : Blk w6 (w.heap.size + 1 + 1) 26 #[.bool false, .slice none 0 0, .slice none 0 0, .bool false] := z2_2.below q6 z2_2.lt
  replace xg5_2 : Blk w6 (g5_2) 24 #[.bool b4, .slice A4 n4 c4, .slice A'4 n'4 c'4] := xg5_2.below q6 xg5_2.lt
  have bw6 : Below w.heap.size w w6 := bw2.trans (q6.mono bw2.size)
  have lw6 : w2.heap.size ≤ w6.heap.size := q6.size
  clear hb6 q6 bw2
  go_wp2_with fail
  (with_reducible refine (t_half _).mono ?_); rintro e w7 ⟨b7, A7, n7, c7, A'7, n'7, c'7, x7, rfl, h7, hb7⟩
  have q7 : Below w6.heap.size w6 w7 := hb7
  replace h := h.belw q7
  replace h' := h'.belw q7
  replace h4 := h4.belw q7
  replace z2_0 : Blk w7 (w.heap.size) 24 #[.bool b, .slice A n c, .slice D m e] := z2_0.below q7 z2_0.lt
  replace z2_1 : Blk w7 (w.heap.size + 1) 24 #[.bool b', .slice A' n' c', .slice D' m' e'] := z2_1.below q7 z2_1.lt
  replace z2_2 : Blk w7 (w.heap.size + 1 + 1) 26 #[.bool false, .slice none 0 0, .slice none 0 0, .bool false] := z2_2.below q7 z2_2.lt
  replace xg5_2 : Blk w7 (g5_2) 24 #[.bool b4, .slice A4 n4 c4, .slice A'4 n'4 c'4] := xg5_2.below q7 xg5_2.lt
  have bw7 : Below w.heap.size w w7 := bw6.trans (q7.mono bw6.size)
  have lw7 : w6.heap.size ≤ w7.heap.size := q7.size
  clear hb7 q7 bw6
  have cz2_2_0 : w7.cell? ⟨w.heap.size + 1 + 1, 0, none⟩ = some (.bool false) := z2_2.cell 0
  have fz2_2_0 : w7.frozen? ⟨w.heap.size + 1 + 1, 0, none⟩ = false := z2_2.frozen 0
  have cz2_2_1 : w7.cell? ⟨w.heap.size + 1 + 1, 1, none⟩ = some (.slice none 0 0) := z2_2.cell 1
  have fz2_2_1 : w7.frozen? ⟨w.heap.size + 1 + 1, 1, none⟩ = false := z2_2.frozen 1
  have cz2_2_2 : w7.cell? ⟨w.heap.size + 1 + 1, 2, none⟩ = some (.slice none 0 0) := z2_2.cell 2
  have fz2_2_2 : w7.frozen? ⟨w.heap.size + 1 + 1, 2, none⟩ = false := z2_2.frozen 2
  have cz2_2_3 : w7.cell? ⟨w.heap.size + 1 + 1, 3, none⟩ = some (.bool false) := z2_2.cell 3
  have fz2_2_3 : w7.frozen? ⟨w.heap.size + 1 + 1, 3, none⟩ = false := z2_2.frozen 3
  have lz2_2_0 : w.heap.size + 2 < w7.heap.size := by have := z2_2.lt; omega
  have lz2_2_1 : w.heap.size + 1 < w7.heap.size := by have := z2_2.lt; omega
  have lz2_2_2 : w.heap.size < w7.heap.size := by have := z2_2.lt; omega
  have lz2_2_3 : w.heap.size < w7.heap.size + 1 := by have := z2_2.lt; omega
  go_wp2_with fail
  refine bodyPost_ret (v := .agg #[.bool b7, .slice A7 n7 c7, .slice A'7 n'7 c'7, .bool x7]) (by simp [results, Try.results37, go_sem, *] <;> first | rfl | exact ⟨rfl, rfl⟩) rfl ?_
  have kp := (((((Kp.refl w7).setB (p := ⟨w.heap.size + 1 + 1, 0, none⟩) z2_2.box (by decide) (.bool b7)).setB (p := ⟨w.heap.size + 1 + 1, 1, none⟩) (z2_2.box.set ⟨w.heap.size + 1 + 1, 0, none⟩ (.bool b7)) (by decide) (.slice A7 n7 c7)).setB (p := ⟨w.heap.size + 1 + 1, 2, none⟩) ((z2_2.box.set ⟨w.heap.size + 1 + 1, 0, none⟩ (.bool b7)).set ⟨w.heap.size + 1 + 1, 1, none⟩ (.slice A7 n7 c7)) (by decide) (.slice A'7 n'7 c'7)).setB (p := ⟨w.heap.size + 1 + 1, 3, none⟩) (((z2_2.box.set ⟨w.heap.size + 1 + 1, 0, none⟩ (.bool b7)).set ⟨w.heap.size + 1 + 1, 1, none⟩ (.slice A7 n7 c7)).set ⟨w.heap.size + 1 + 1, 2, none⟩ (.slice A'7 n'7 c'7)) (by decide) (.bool x7))
  exact ⟨b7, A7, n7, c7, A'7, n'7, c'7, x7, rfl, (h7.keep kp).mono (by omega), ((((bw7.setCell (p := ⟨w.heap.size + 1 + 1, 0, none⟩) (by dsimp only; omega) (.bool b7)).setCell (p := ⟨w.heap.size + 1 + 1, 1, none⟩) (by dsimp only; omega) (.slice A7 n7 c7)).setCell (p := ⟨w.heap.size + 1 + 1, 2, none⟩) (by dsimp only; omega) (.slice A'7 n'7 c'7)).setCell (p := ⟨w.heap.size + 1 + 1, 3, none⟩) (by dsimp only; omega) (.bool x7))⟩
set_option maxRecDepth 100000 in
set_option maxHeartbeats 4000000 in
/-- turn.of -/
theorem t_of_1 (w : World) (b : Bool) (A : Option Addr) (n c : Nat) (D : Option Addr) (m e : Nat) (q : Rat) (k : Nat) (h : QZ w b A n c D m e q k) (b' : Bool) (A' : Option Addr) (n' c' : Nat) (D' : Option Addr) (m' e' : Nat) (q' : Rat) (k' : Nat) (h' : QZ w b' A' n' c' D' m' e' q' k') (h0 : 0 < k) (hk : k ≤ 1000000) (h0' : 0 < k') (hk' : k' ≤ 1000000) (hz : ((1 : Int) : Rat) + q ≠ 0) :
    Calls Try.prog 37 #[.agg #[.bool b, .slice A n c, .slice D m e], .agg #[.bool b', .slice A' n' c', .slice D' m' e']] w (RetT w (tof q q') (k + k' + 2)) := by
  have HT := Lib.hid (show tof q q' = ⟨q' / (((1 : Int) : Rat) + q), false⟩ by unfold tof; rw [if_neg (fun e => hz (show (1 : Rat) + q = 0 by grind))]; rfl)
  obtain ⟨s, hs⟩ : ∃ s, (((1 : Int) : Rat) + q).num.sign = s := ⟨_, rfl⟩
  have e0 := sgn_ne hs hz
  have HZ := Lib.hid hs
  have HNE := Lib.hid hz
  clear hz hs
  go_enter Try.func37, Try.ntmps37
  go_wp2_with fail
  have p1 : Kp w (((w.alloc (.cells #[.bool b, .slice A n c, .slice D m e] 24)).alloc (.cells #[.bool b', .slice A' n' c', .slice D' m' e'] 24)).alloc (.cells #[.bool false, .slice none 0 0, .slice none 0 0, .bool false] 26)) := ((((Kp.refl w).alloc (.cells #[.bool b, .slice A n c, .slice D m e] 24)).alloc (.cells #[.bool b', .slice A' n' c', .slice D' m' e'] 24)).alloc (.cells #[.bool false, .slice none 0 0, .slice none 0 0, .bool false] 26))
  have bw1 : Below w.heap.size w (((w.alloc (.cells #[.bool b, .slice A n c, .slice D m e] 24)).alloc (.cells #[.bool b', .slice A' n' c', .slice D' m' e'] 24)).alloc (.cells #[.bool false, .slice none 0 0, .slice none 0 0, .bool false] 26)) := ((((brefl w).alloc (by first | omega | (simp <;> omega)) (.cells #[.bool b, .slice A n c, .slice D m e] 24)).alloc (by first | omega | (simp <;> omega)) (.cells #[.bool b', .slice A' n' c', .slice D' m' e'] 24)).alloc (by first | omega | (simp <;> omega)) (.cells #[.bool false, .slice none 0 0, .slice none 0 0, .bool false] 26))
  have x1_0 : Blk (((w.alloc (.cells #[.bool b, .slice A n c, .slice D m e] 24)).alloc (.cells #[.bool b', .slice A' n' c', .slice D' m' e'] 24)).alloc (.cells #[.bool false, .slice none 0 0, .slice none 0 0, .bool false] 26)) (w.heap.size) 24 #[.bool b, .slice A n c, .slice D m e] := (((blkAt _ _ _ (by simp)).alloc (.cells #[.bool b', .slice A' n' c', .slice D' m' e'] 24)).alloc (.cells #[.bool false, .slice none 0 0, .slice none 0 0, .bool false] 26))
  have x1_1 : Blk (((w.alloc (.cells #[.bool b, .slice A n c, .slice D m e] 24)).alloc (.cells #[.bool b', .slice A' n' c', .slice D' m' e'] 24)).alloc (.cells #[.bool false, .slice none 0 0, .slice none 0 0, .bool false] 26)) (w.heap.size + 1) 24 #[.bool b', .slice A' n' c', .slice D' m' e'] := ((blkAt _ _ _ (by simp)).alloc (.cells #[.bool false, .slice none 0 0, .slice none 0 0, .bool false] 26))
  have x1_2 : Blk (((w.alloc (.cells #[.bool b, .slice A n c, .slice D m e] 24)).alloc (.cells #[.bool b', .slice A' n' c', .slice D' m' e'] 24)).alloc (.cells #[.bool false, .slice none 0 0, .slice none 0 0, .bool false] 26)) (w.heap.size + 1 + 1) 26 #[.bool false, .slice none 0 0, .slice none 0 0, .bool false] := (blkAt _ _ _ (by simp))
  have lw1 : w.heap.size + 3 ≤ (((w.alloc (.cells #[.bool b, .slice A n c, .slice D m e] 24)).alloc (.cells #[.bool b', .slice A' n' c', .slice D' m' e'] 24)).alloc (.cells #[.bool false, .slice none 0 0, .slice none 0 0, .bool false] 26)).heap.size := by simp
  generalize hE1 : (((w.alloc (.cells #[.bool b, .slice A n c, .slice D m e] 24)).alloc (.cells #[.bool b', .slice A' n' c', .slice D' m' e'] 24)).alloc (.cells #[.bool false, .slice none 0 0, .slice none 0 0, .bool false] 26)) = w1 at p1 bw1 lw1 x1_0 x1_1 x1_2 ⊢
  clear hE1
  replace h := h.keep p1
  replace h' := h'.keep p1
  have cx1_0_0 : w1.cell? ⟨w.heap.size, 0, none⟩ = some (.bool b) := x1_0.cell 0
  have cx1_0_1 : w1.cell? ⟨w.heap.size, 1, none⟩ = some (.slice A n c) := x1_0.cell 1
  have cx1_0_2 : w1.cell? ⟨w.heap.size, 2, none⟩ = some (.slice D m e) := x1_0.cell 2
  have lx1_0_0 : w.heap.size < w1.heap.size := by have := x1_0.lt; omega
  have lx1_0_1 : w.heap.size < w1.heap.size + 1 := by have := x1_0.lt; omega
  have lx1_0_2 : w.heap.size < w1.heap.size + 2 := by have := x1_0.lt; omega
  have lx1_0_3 : w.heap.size < w1.heap.size + 3 := by have := x1_0.lt; omega
  refine wp_region_lin (B := w.heap.size) (fr := fun xf => ⟨List.toArray (.agg #[.bool b, .slice A n c, .slice D m e] :: .agg #[.bool b', .slice A' n' c', .slice D' m' e'] :: .pointer (some ⟨w.heap.size, 0, none⟩) :: .pointer (some ⟨w.heap.size + 1, 0, none⟩) :: .pointer (some ⟨w.heap.size + 1 + 1, 0, none⟩) :: xf 3 :: xf 0 :: xf 1 :: xf 2 :: undef :: undef :: undef :: undef :: undef :: undef :: undef :: undef :: []), []⟩) (R := fun i => List.getD ((VQ (((1 : Int) : Rat)) (1)) :: (PEq (.agg #[.bool b, .slice A n c, .slice D m e])) :: (VQ ((((1 : Int) : Rat)) + (q)) ((1) + (k) + 1)) :: PAny :: PAny :: []) i (fun _ _ => True)) (es := [⟨3, 4, 24, #[.bool false, .slice none 0 0, .slice none 0 0], CQ ((((1 : Int) : Rat)) + (q)) ((1) + (k) + 1)⟩]) (ow := [⟨w.heap.size, 5, 0, 24, #[.bool b, .slice A n c, .slice D m e], CAny⟩, ⟨w.heap.size + 1, 5, 0, 24, #[.bool b', .slice A' n' c', .slice D' m' e'], CAny⟩, ⟨w.heap.size + 1 + 1, 5, 0, 26, #[.bool false, .slice none 0 0, .slice none 0 0, .bool false], CAny⟩]) (x0 := (fun _ => undef)) (by kernel_rfl)
    (each_of ⟨fun _ _ => rfl, fun _ _ => rfl, fun _ _ => rfl, fun _ _ => rfl, fun _ _ => rfl, trivial⟩) (each_of (acyc_from _ 0 (by kernel_rfl))) (AllStab.get _ ⟨stQ _ _, stEq _, stQ _ _, stAny, stAny, trivial⟩)
    (List.forall_mem_cons.2 ⟨scQ _ _, fun _ h => nomatch h⟩) (List.forall_mem_cons.2 ⟨scAny, List.forall_mem_cons.2 ⟨scAny, List.forall_mem_cons.2 ⟨scAny, fun _ h => nomatch h⟩⟩⟩) (List.forall_mem_cons.2 ⟨⟨by simp, by simp⟩, fun _ h => nomatch h⟩) bw1.size
    (List.forall_mem_cons.2 ⟨⟨x1_0, by show w.heap.size ≤ w.heap.size; omega⟩, List.forall_mem_cons.2 ⟨⟨x1_1, by show w.heap.size ≤ w.heap.size + 1; omega⟩, List.forall_mem_cons.2 ⟨⟨x1_2, by show w.heap.size ≤ w.heap.size + 1 + 1; omega⟩, fun _ h => nomatch h⟩⟩⟩) (ownDist (by simp <;> omega))
    (each_of ⟨?_, ?_, ?_, ?_, ?_, trivial⟩) ?_
  · exact .inl ⟨by simp, by simp, fun xf wq hk hbl hd K hK => by
      (try dsimp only)
      go_simp
      go_at_call 19
      (with_reducible refine (f_of _ (1) ?_ ?_).mono ?_); (first | omega | decide | assumption); (first | omega | decide | assumption); rintro e wr ⟨b3, A3, n3, c3, A'3, n'3, c'3, rfl, h3, hbr⟩
      exact hK.out _ _ ⟨b3, A3, n3, c3, A'3, n'3, c'3, rfl, h3⟩ hbr⟩
  · exact .inl ⟨by simp, by simp, fun xf wq hk hbl hd K hK => by
      have y : Blk wq (w.heap.size) 24 #[.bool b, .slice A n c, .slice D m e] := hbl _ (List.Mem.head _) (by simp [Region.binds])
      have hcl0 : wq.cell? ⟨w.heap.size, 0, none⟩ = some (.bool b) := y.cell 0
      have hcl1 : wq.cell? ⟨w.heap.size, 1, none⟩ = some (.slice A n c) := y.cell 1
      have hcl2 : wq.cell? ⟨w.heap.size, 2, none⟩ = some (.slice D m e) := y.cell 2
      (try dsimp only)
      go_simp
      exact hK.out (.agg #[.bool b, .slice A n c, .slice D m e]) _ rfl (brefl _)⟩
  · exact .inl ⟨by simp, by simp, fun xf wq hk hbl hd K hK => by
      obtain ⟨b3, A3, n3, c3, A'3, n'3, c'3, d0, h3⟩ : VQ (((1 : Int) : Rat)) (1) (xf 0) wq := hd ⟨0, .data⟩ (by simp) rfl
      have d1 : xf 1 = .agg #[.bool b, .slice A n c, .slice D m e] := hd ⟨1, .data⟩ (by simp) rfl
      (try dsimp only); (try simp only [d0, d1])
      go_simp
      go_at_call 11
      (with_reducible refine (f_add _ b3 A3 n3 c3 A'3 n'3 c'3 (((1 : Int) : Rat)) (1) ?_ b A n c D m e (q) (k) ?_ ?_ ?_ ?_ ?_).mono ?_); (exact h3.qz); (exact (h.keep hk)); (first | omega | decide | assumption); (first | omega | decide | assumption); (first | omega | decide | assumption); (first | omega | decide | assumption); rintro e wr ⟨b4, A4, n4, c4, A'4, n'4, c'4, rfl, h4, hbr⟩
      have hz := hK.out _ _ ⟨b4, A4, n4, c4, A'4, n'4, c'4, rfl, h4⟩ hbr
      simp only [d0, d1] at hz
      exact hz⟩
  · exact .inr (.inl ⟨⟨3, 4, 24, #[.bool false, .slice none 0 0, .slice none 0 0], CQ ((((1 : Int) : Rat)) + (q)) ((1) + (k) + 1)⟩, by simp, rfl, by simp, by simp, by simp, fun _ _ => True.intro, fun xf wq K hK => by
      (try dsimp only)
      go_simp
      exact hK.out⟩)
  · exact .inr (.inr (.inl ⟨⟨3, 4, 24, #[.bool false, .slice none 0 0, .slice none 0 0], CQ ((((1 : Int) : Rat)) + (q)) ((1) + (k) + 1)⟩, by simp, rfl, by simp, by simp, by simp, by simp, (show KT 24 = false by decide), fun _ _ => True.intro, ⟨⟨3, .data⟩, by simp, rfl, rfl⟩, fun xf wq g hx hblk hd => by
      obtain ⟨b4, A4, n4, c4, A'4, n'4, c'4, d2, h4⟩ : VQ ((((1 : Int) : Rat)) + (q)) ((1) + (k) + 1) (xf 2) wq := hd ⟨2, .data⟩ (by simp) rfl
      dsimp only at hx hblk
      refine ⟨[.bool b4, .slice A4 n4 c4, .slice A'4 n'4 c'4], fun w' hk => ⟨b4, A4, n4, c4, A'4, n'4, c'4, rfl, h4.keep hk⟩, fun K hK => ?_⟩
      have hc0 : wq.cell? ⟨g, 0, none⟩ = some (.bool false) := hblk.cell 0
      have hc1 : wq.cell? ⟨g, 1, none⟩ = some (.slice none 0 0) := hblk.cell 1
      have hc2 : wq.cell? ⟨g, 2, none⟩ = some (.slice none 0 0) := hblk.cell 2
      have hf0 : wq.frozen? ⟨g, 0, none⟩ = false := hblk.frozen 0
      have hf1 : wq.frozen? ⟨g, 1, none⟩ = false := hblk.frozen 1
      have hf2 : wq.frozen? ⟨g, 2, none⟩ = false := hblk.frozen 2
      (try dsimp only)
      simp only [hx, d2]
      go_simp
      have hz := hK.out undef
      simp only [hx, d2] at hz
      exact hz⟩))
  clear cx1_0_0 cx1_0_1 cx1_0_2 lx1_0_0 lx1_0_1 lx1_0_2 lx1_0_3
  intro y2 w2 kq2 hbl2 lw2 how hrr hfl hds
  replace h := h.keep kq2
  replace h' := h'.keep kq2
  obtain ⟨_, z2_0, ez, _⟩ := how _ (List.Mem.head _)
  obtain rfl := ez (by simp)
  dsimp only at z2_0
  obtain ⟨_, z2_1, ez, _⟩ := how _ (List.Mem.tail _ (List.Mem.head _))
  obtain rfl := ez (by simp)
  dsimp only at z2_1
  obtain ⟨_, z2_2, ez, _⟩ := how _ (List.Mem.tail _ (List.Mem.tail _ (List.Mem.head _)))
  obtain rfl := ez (by simp)
  dsimp only at z2_2
  obtain ⟨g5_2, _, eg5_2, Gg5_2, xg5_2, ⟨b4, A4, n4, c4, A'4, n'4, c'4, rfl, h4⟩⟩ := hfl _ (List.Mem.head _)
  dsimp only at eg5_2 Gg5_2 xg5_2
  have lgg5_2 : g5_2 < w2.heap.size := xg5_2.lt
  (try dsimp only)
  simp only [eg5_2]
  clear hrr hfl how hds eg5_2
  clear x1_0 x1_1 x1_2
  have bw2 : Below w.heap.size w w2 := bw1.trans hbl2
  clear bw1
  have cxg5_2_0 : w2.cell? ⟨g5_2, 0, none⟩ = some (.bool b4) := xg5_2.cell 0
  have cxg5_2_1 : w2.cell? ⟨g5_2, 1, none⟩ = some (.slice A4 n4 c4) := xg5_2.cell 1
  have cxg5_2_2 : w2.cell? ⟨g5_2, 2, none⟩ = some (.slice A'4 n'4 c'4) := xg5_2.cell 2
  have lxg5_2_0 : g5_2 < w2.heap.size := by have := xg5_2.lt; omega
  have lxg5_2_1 : g5_2 < w2.heap.size + 1 := by have := xg5_2.lt; omega
  have lxg5_2_2 : g5_2 < w2.heap.size + 2 := by have := xg5_2.lt; omega
  have lxg5_2_3 : g5_2 < w2.heap.size + 3 := by have := xg5_2.lt; omega
  go_wp2_with fail
  (with_reducible refine (f_sign_e _ b4 A4 n4 c4 A'4 n'4 c'4 ((((1 : Int) : Rat)) + (q)) ((1) + (k) + 1) ?_ (s) ?_ ?_ ?_).mono ?_); (exact h4.qz); (exact HZ.out); (first | omega | decide | assumption); (first | omega | decide | assumption); rintro e w6 ⟨rfl, hb6⟩
  clear cxg5_2_0 cxg5_2_1 cxg5_2_2 lxg5_2_0 lxg5_2_1 lxg5_2_2 lxg5_2_3
  have q6 : Below w2.heap.size w2 w6 := hb6
  replace h := h.belw q6
  replace h' := h'.belw q6
  replace h4 := h4.belw q6
  replace z2_0 : Blk w6 (w.heap.size) 24 #[.bool b, .slice A n c, .slice D m e] := z2_0.below q6 z2_0.lt
  replace z2_1 : Blk w6 (w.heap.size + 1) 24 #[.bool b', .slice A' n' c', .slice D' m' e'] := z2_1.below q6 z2_1.lt
  replace z2_2 : Blk w6 (w.heap.size + 1 + 1) 26 #[.bool false, .slice none 0 0, .slice none 0 0, .bool false] := z2_2.below q6 z2_2.lt
  replace xg5_2 : Blk w6 (g5_2) 24 #[.bool b4, .slice A4 n4 c4, .slice A'4 n'4 c'4] := xg5_2.below q6 xg5_2.lt
  have bw6 : Below w.heap.size w w6 := bw2.trans (q6.mono bw2.size)
  have lw6 : w2.heap.size ≤ w6.heap.size := q6.size
  clear hb6 q6 bw2
  have cz2_1_0 : w6.cell? ⟨w.heap.size + 1, 0, none⟩ = some (.bool b') := z2_1.cell 0
  have cz2_1_1 : w6.cell? ⟨w.heap.size + 1, 1, none⟩ = some (.slice A' n' c') := z2_1.cell 1
  have cz2_1_2 : w6.cell? ⟨w.heap.size + 1, 2, none⟩ = some (.slice D' m' e') := z2_1.cell 2
  have lz2_1_0 : w.heap.size + 1 < w6.heap.size := by have := z2_1.lt; omega
  have lz2_1_1 : w.heap.size < w6.heap.size := by have := z2_1.lt; omega
  have lz2_1_2 : w.heap.size < w6.heap.size + 1 := by have := z2_1.lt; omega
  have lz2_1_3 : w.heap.size < w6.heap.size + 2 := by have := z2_1.lt; omega
  have cxg5_2_0 : w6.cell? ⟨g5_2, 0, none⟩ = some (.bool b4) := xg5_2.cell 0
  have cxg5_2_1 : w6.cell? ⟨g5_2, 1, none⟩ = some (.slice A4 n4 c4) := xg5_2.cell 1
  have cxg5_2_2 : w6.cell? ⟨g5_2, 2, none⟩ = some (.slice A'4 n'4 c'4) := xg5_2.cell 2
  have lxg5_2_0 : g5_2 < w6.heap.size := by have := xg5_2.lt; omega
  have lxg5_2_1 : g5_2 < w6.heap.size + 1 := by have := xg5_2.lt; omega
  have lxg5_2_2 : g5_2 < w6.heap.size + 2 := by have := xg5_2.lt; omega
  have lxg5_2_3 : g5_2 < w6.heap.size + 3 := by have := xg5_2.lt; omega
  go_wp2_with fail
  (with_reducible refine (t_over _ b' A' n' c' D' m' e' (q') (k') ?_ b4 A4 n4 c4 A'4 n'4 c'4 ((((1 : Int) : Rat)) + (q)) ((1) + (k) + 1) ?_ ?_ ?_ ?_ ?_ ?_).mono ?_); (exact h'); (exact h4.qz); (first | omega | decide | assumption); (first | omega | decide | assumption); (first | omega | decide | assumption); (first | omega | decide | assumption); (exact HNE.out); rintro e w7 ⟨b7, A7, n7, c7, A'7, n'7, c'7, rfl, h7, hb7⟩
  clear cz2_1_0 cz2_1_1 cz2_1_2 lz2_1_0 lz2_1_1 lz2_1_2 lz2_1_3 cxg5_2_0 cxg5_2_1 cxg5_2_2 lxg5_2_0 lxg5_2_1 lxg5_2_2 lxg5_2_3
  have q7 : Below w6.heap.size w6 w7 := hb7
  replace h := h.belw q7
  replace h' := h'.belw q7
  replace h4 := h4.belw q7
  replace z2_0 : Blk w7 (w.heap.size) 24 #[.bool b, .slice A n c, .slice D m e] := z2_0.below q7 z2_0.lt
  replace z2_1 : Blk w7 (w.heap.size + 1) 24 #[.bool b', .slice A' n' c', .slice D' m' e'] := z2_1.below q7 z2_1.lt
  replace z2_2 : Blk w7 (w.heap.size + 1 + 1) 26 #[.bool false, .slice none 0 0, .slice none 0 0, .bool false] := z2_2.below q7 z2_2.lt
  replace xg5_2 : Blk w7 (g5_2) 24 #[.bool b4, .slice A4 n4 c4, .slice A'4 n'4 c'4] := xg5_2.below q7 xg5_2.lt
  have bw7 : Below w.heap.size w w7 := bw6.trans (q7.mono bw6.size)
  have lw7 : w6.heap.size ≤ w7.heap.size := q7.size
  clear hb7 q7 bw6
  have cz2_2_0 : w7.cell? ⟨w.heap.size + 1 + 1, 0, none⟩ = some (.bool false) := z2_2.cell 0
  have fz2_2_0 : w7.frozen? ⟨w.heap.size + 1 + 1, 0, none⟩ = false := z2_2.frozen 0
  have cz2_2_1 : w7.cell? ⟨w.heap.size + 1 + 1, 1, none⟩ = some (.slice none 0 0) := z2_2.cell 1
  have fz2_2_1 : w7.frozen? ⟨w.heap.size + 1 + 1, 1, none⟩ = false := z2_2.frozen 1
  have cz2_2_2 : w7.cell? ⟨w.heap.size + 1 + 1, 2, none⟩ = some (.slice none 0 0) := z2_2.cell 2
  have fz2_2_2 : w7.frozen? ⟨w.heap.size + 1 + 1, 2, none⟩ = false := z2_2.frozen 2
  have cz2_2_3 : w7.cell? ⟨w.heap.size + 1 + 1, 3, none⟩ = some (.bool false) := z2_2.cell 3
  have fz2_2_3 : w7.frozen? ⟨w.heap.size + 1 + 1, 3, none⟩ = false := z2_2.frozen 3
  have lz2_2_0 : w.heap.size + 2 < w7.heap.size := by have := z2_2.lt; omega
  have lz2_2_1 : w.heap.size + 1 < w7.heap.size := by have := z2_2.lt; omega
  have lz2_2_2 : w.heap.size < w7.heap.size := by have := z2_2.lt; omega
  have lz2_2_3 : w.heap.size < w7.heap.size + 1 := by have := z2_2.lt; omega
  go_wp2_with fail
  rw [HT.out]
  refine bodyPost_ret (v := .agg #[.bool b7, .slice A7 n7 c7, .slice A'7 n'7 c'7, .bool false]) (by simp [results, Try.results37, go_sem, *] <;> first | rfl | exact ⟨rfl, rfl⟩) rfl ?_
  have kp := (((((Kp.refl w7).setB (p := ⟨w.heap.size + 1 + 1, 0, none⟩) z2_2.box (by decide) (.bool b7)).setB (p := ⟨w.heap.size + 1 + 1, 1, none⟩) (z2_2.box.set ⟨w.heap.size + 1 + 1, 0, none⟩ (.bool b7)) (by decide) (.slice A7 n7 c7)).setB (p := ⟨w.heap.size + 1 + 1, 2, none⟩) ((z2_2.box.set ⟨w.heap.size + 1 + 1, 0, none⟩ (.bool b7)).set ⟨w.heap.size + 1 + 1, 1, none⟩ (.slice A7 n7 c7)) (by decide) (.slice A'7 n'7 c'7)).setB (p := ⟨w.heap.size + 1 + 1, 3, none⟩) (((z2_2.box.set ⟨w.heap.size + 1 + 1, 0, none⟩ (.bool b7)).set ⟨w.heap.size + 1 + 1, 1, none⟩ (.slice A7 n7 c7)).set ⟨w.heap.size + 1 + 1, 2, none⟩ (.slice A'7 n'7 c'7)) (by decide) (.bool false))
  exact ⟨b7, A7, n7, c7, A'7, n'7, c'7, false, rfl, (tv_mk (h7.keep kp)).mono (by omega), ((((bw7.setCell (p := ⟨w.heap.size + 1 + 1, 0, none⟩) (by dsimp only; omega) (.bool b7)).setCell (p := ⟨w.heap.size + 1 + 1, 1, none⟩) (by dsimp only; omega) (.slice A7 n7 c7)).setCell (p := ⟨w.heap.size + 1 + 1, 2, none⟩) (by dsimp only; omega) (.slice A'7 n'7 c'7)).setCell (p := ⟨w.heap.size + 1 + 1, 3, none⟩) (by dsimp only; omega) (.bool false))⟩
end Go.Proofs.Ytmneloabphplmaa

/- Walks: the turn of a point of the unit circle. -/
namespace Go.Proofs.Ytmneloabphplmaa
open Go Go.RowKit Bn
attribute [local go_sem ↓] Go.wp_at_zero Go.wp_at_succ
theorem f_cmp_e (w : World) (b : Bool) (A : Option Addr) (n c : Nat) (D : Option Addr) (m e : Nat) (q : Rat) (k : Nat) (h : QZ w b A n c D m e q k) (b' : Bool) (A' : Option Addr) (n' c' : Nat) (D' : Option Addr) (m' e' : Nat) (q' : Rat) (k' : Nat) (h' : QZ w b' A' n' c' D' m' e' q' k') (he : q = q') (h0 : 0 < k) (hk : k ≤ 40000000) (h0' : 0 < k') (hk' : k' ≤ 40000000) : Calls Try.prog 13 #[.agg #[.bool b, .slice A n c, .slice D m e], .agg #[.bool b', .slice A' n' c', .slice D' m' e']] w (RetV w (.int .i64 0)) := by
  have := f_cmp w b A n c D m e q k h b' A' n' c' D' m' e' q' k' h' h0 hk h0' hk'
  rw [cmpI_rcmp, show rcmp q q' = 0 by subst he; unfold rcmp; rw [if_neg (by grind), if_pos rfl]] at this
  exact this
theorem t_of (w : World) (b : Bool) (A : Option Addr) (n c : Nat) (D : Option Addr) (m e : Nat) (q : Rat) (k : Nat) (h : QZ w b A n c D m e q k) (b' : Bool) (A' : Option Addr) (n' c' : Nat) (D' : Option Addr) (m' e' : Nat) (q' : Rat) (k' : Nat) (h' : QZ w b' A' n' c' D' m' e' q' k') (h0 : 0 < k) (hk : k ≤ 1000000) (h0' : 0 < k') (hk' : k' ≤ 1000000) : Calls Try.prog 37 #[.agg #[.bool b, .slice A n c, .slice D m e], .agg #[.bool b', .slice A' n' c', .slice D' m' e']] w (RetT w (tof q q') (k + k' + 2)) := by
  by_cases hz : ((1 : Int) : Rat) + q = 0
  · exact t_of_0 w b A n c D m e q k h b' A' n' c' D' m' e' q' k' h' h0 hk h0' hk' hz
  · exact t_of_1 w b A n c D m e q k h b' A' n' c' D' m' e' q' k' h' h0 hk h0' hk' hz
set_option maxRecDepth 100000 in
set_option maxHeartbeats 4000000 in
/-- turn.Of -/
theorem t_Of (w : World) (b : Bool) (A : Option Addr) (n c : Nat) (D : Option Addr) (m e : Nat) (q : Rat) (k : Nat) (h : QZ w b A n c D m e q k) (b' : Bool) (A' : Option Addr) (n' c' : Nat) (D' : Option Addr) (m' e' : Nat) (q' : Rat) (k' : Nat) (h' : QZ w b' A' n' c' D' m' e' q' k') (h0 : 0 < k) (hk : k ≤ 1000000) (h0' : 0 < k') (hk' : k' ≤ 1000000) (hs : q * q + q' * q' = ((1 : Int) : Rat)) :
    Calls Try.prog 17 #[.agg #[.bool b, .slice A n c, .slice D m e], .agg #[.bool b', .slice A' n' c', .slice D' m' e']] w (RetTe w .nilIface (tof q q') (k + k' + 2)) := by
  have HS := Lib.hid hs
  clear hs
  go_enter Try.func17, Try.ntmps17
  go_wp2_with fail
  have p1 : Kp w (((w.alloc (.cells #[.bool b, .slice A n c, .slice D m e] 24)).alloc (.cells #[.bool b', .slice A' n' c', .slice D' m' e'] 24)).alloc (.cells #[.bool false, .slice none 0 0, .slice none 0 0, .bool false] 26)) := ((((Kp.refl w).alloc (.cells #[.bool b, .slice A n c, .slice D m e] 24)).alloc (.cells #[.bool b', .slice A' n' c', .slice D' m' e'] 24)).alloc (.cells #[.bool false, .slice none 0 0, .slice none 0 0, .bool false] 26))
  have bw1 : Below w.heap.size w (((w.alloc (.cells #[.bool b, .slice A n c, .slice D m e] 24)).alloc (.cells #[.bool b', .slice A' n' c', .slice D' m' e'] 24)).alloc (.cells #[.bool false, .slice none 0 0, .slice none 0 0, .bool false] 26)) := ((((brefl w).alloc (by first | omega | (simp <;> omega)) (.cells #[.bool b, .slice A n c, .slice D m e] 24)).alloc (by first | omega | (simp <;> omega)) (.cells #[.bool b', .slice A' n' c', .slice D' m' e'] 24)).alloc (by first | omega | (simp <;> omega)) (.cells #[.bool false, .slice none 0 0, .slice none 0 0, .bool false] 26))
  have x1_0 : Blk (((w.alloc (.cells #[.bool b, .slice A n c, .slice D m e] 24)).alloc (.cells #[.bool b', .slice A' n' c', .slice D' m' e'] 24)).alloc (.cells #[.bool false, .slice none 0 0, .slice none 0 0, .bool false] 26)) (w.heap.size) 24 #[.bool b, .slice A n c, .slice D m e] := (((blkAt _ _ _ (by simp)).alloc (.cells #[.bool b', .slice A' n' c', .slice D' m' e'] 24)).alloc (.cells #[.bool false, .slice none 0 0, .slice none 0 0, .bool false] 26))
  have x1_1 : Blk (((w.alloc (.cells #[.bool b, .slice A n c, .slice D m e] 24)).alloc (.cells #[.bool b', .slice A' n' c', .slice D' m' e'] 24)).alloc (.cells #[.bool false, .slice none 0 0, .slice none 0 0, .bool false] 26)) (w.heap.size + 1) 24 #[.bool b', .slice A' n' c', .slice D' m' e'] := ((blkAt _ _ _ (by simp)).alloc (.cells #[.bool false, .slice none 0 0, .slice none 0 0, .bool false] 26))
  have x1_2 : Blk (((w.alloc (.cells #[.bool b, .slice A n c, .slice D m e] 24)).alloc (.cells #[.bool b', .slice A' n' c', .slice D' m' e'] 24)).alloc (.cells #[.bool false, .slice none 0 0, .slice none 0 0, .bool false] 26)) (w.heap.size + 1 + 1) 26 #[.bool false, .slice none 0 0, .slice none 0 0, .bool false] := (blkAt _ _ _ (by simp))
  have lw1 : w.heap.size + 3 ≤ (((w.alloc (.cells #[.bool b, .slice A n c, .slice D m e] 24)).alloc (.cells #[.bool b', .slice A' n' c', .slice D' m' e'] 24)).alloc (.cells #[.bool false, .slice none 0 0, .slice none 0 0, .bool false] 26)).heap.size := by simp
  generalize hE1 : (((w.alloc (.cells #[.bool b, .slice A n c, .slice D m e] 24)).alloc (.cells #[.bool b', .slice A' n' c', .slice D' m' e'] 24)).alloc (.cells #[.bool false, .slice none 0 0, .slice none 0 0, .bool false] 26)) = w1 at p1 bw1 lw1 x1_0 x1_1 x1_2 ⊢
  clear hE1
  replace h := h.keep p1
  replace h' := h'.keep p1
  have cx1_0_0 : w1.cell? ⟨w.heap.size, 0, none⟩ = some (.bool b) := x1_0.cell 0
  have cx1_0_1 : w1.cell? ⟨w.heap.size, 1, none⟩ = some (.slice A n c) := x1_0.cell 1
  have cx1_0_2 : w1.cell? ⟨w.heap.size, 2, none⟩ = some (.slice D m e) := x1_0.cell 2
  have lx1_0_0 : w.heap.size < w1.heap.size := by have := x1_0.lt; omega
  have lx1_0_1 : w.heap.size < w1.heap.size + 1 := by have := x1_0.lt; omega
  have lx1_0_2 : w.heap.size < w1.heap.size + 2 := by have := x1_0.lt; omega
  have lx1_0_3 : w.heap.size < w1.heap.size + 3 := by have := x1_0.lt; omega
  have cx1_1_0 : w1.cell? ⟨w.heap.size + 1, 0, none⟩ = some (.bool b') := x1_1.cell 0
  have cx1_1_1 : w1.cell? ⟨w.heap.size + 1, 1, none⟩ = some (.slice A' n' c') := x1_1.cell 1
  have cx1_1_2 : w1.cell? ⟨w.heap.size + 1, 2, none⟩ = some (.slice D' m' e') := x1_1.cell 2
  have lx1_1_0 : w.heap.size + 1 < w1.heap.size := by have := x1_1.lt; omega
  have lx1_1_1 : w.heap.size < w1.heap.size := by have := x1_1.lt; omega
  have lx1_1_2 : w.heap.size < w1.heap.size + 1 := by have := x1_1.lt; omega
  have lx1_1_3 : w.heap.size < w1.heap.size + 2 := by have := x1_1.lt; omega
  have lx1_2_0 : w.heap.size + 2 < w1.heap.size := by have := x1_2.lt; omega
  have lx1_2_1 : w.heap.size + 1 < w1.heap.size := by have := x1_2.lt; omega
  have lx1_2_2 : w.heap.size < w1.heap.size := by have := x1_2.lt; omega
  have lx1_2_3 : w.heap.size < w1.heap.size + 1 := by have := x1_2.lt; omega
  go_region_held3 (fun w' => Sees w1.heap.size w1 w') (first | with_reducible exact Sees.of (Nat.le_refl _) (by assumption) | with_reducible exact Sees.of (Nat.le_refl _) (brefl _).drew | exact Sees.of (Nat.le_refl _) (below_drewN (brefl _) 1) | exact Sees.of (Nat.le_refl _) (below_drewN (by assumption) _))
    (first
      | (go_at_call 12; (with_reducible refine (f_mul _ b A n c D m e (q) (k) ?_ b A n c D m e (q) (k) ?_ ?_ ?_ ?_ ?_).mono ?_); (exact h); (exact h); (first | omega | decide | assumption); (first | omega | decide | assumption); (first | omega | decide | assumption); (first | omega | decide | assumption); rintro e w2 ⟨b2, A2, n2, c2, A'2, n'2, c'2, rfl, h2, hb2⟩; replace hb2 := bnext (below_drewN (brefl _) 1) hb2; have q2 : Below w1.heap.size w1 w2 := bnext (brefl w1) hb2; replace h := h.belw hb2; replace h' := h'.belw hb2)
      | (go_at_call 12; (with_reducible refine (f_mul _ b' A' n' c' D' m' e' (q') (k') ?_ b' A' n' c' D' m' e' (q') (k') ?_ ?_ ?_ ?_ ?_).mono ?_); (exact h'); (exact h'); (first | omega | decide | assumption); (first | omega | decide | assumption); (first | omega | decide | assumption); (first | omega | decide | assumption); rintro e w3 ⟨b3, A3, n3, c3, A'3, n'3, c'3, rfl, h3, hb3⟩; have q3 : Below w1.heap.size w1 w3 := bnext q2 hb3; replace h := h.belw hb3; replace h' := h'.belw hb3; replace h2 := h2.belw hb3)
      | (go_at_call 11; (with_reducible refine (f_add _ b2 A2 n2 c2 A'2 n'2 c'2 ((q) * (q)) ((k) + (k)) ?_ b3 A3 n3 c3 A'3 n'3 c'3 ((q') * (q')) ((k') + (k')) ?_ ?_ ?_ ?_ ?_).mono ?_); (exact h2.qz); (exact h3.qz); (first | omega | decide | assumption); (first | omega | decide | assumption); (first | omega | decide | assumption); (first | omega | decide | assumption); rintro e w4 ⟨b4, A4, n4, c4, A'4, n'4, c'4, rfl, h4, hb4⟩; have q4 : Below w1.heap.size w1 w4 := bnext q3 hb4; replace h := h.belw hb4; replace h' := h'.belw hb4; replace h2 := h2.belw hb4; replace h3 := h3.belw hb4)
      | (go_at_call 19; (with_reducible refine (f_of _ (1) ?_ ?_).mono ?_); (first | omega | decide | assumption); (first | omega | decide | assumption); rintro e w5 ⟨b5, A5, n5, c5, A'5, n'5, c'5, rfl, h5, hb5⟩; have q5 : Below w1.heap.size w1 w5 := bnext q4 hb5; replace h := h.belw hb5; replace h' := h'.belw hb5; replace h2 := h2.belw hb5; replace h3 := h3.belw hb5; replace h4 := h4.belw hb5)
      | (go_at_call 13; (with_reducible refine (f_cmp_e _ b4 A4 n4 c4 A'4 n'4 c'4 (((q) * (q)) + ((q') * (q'))) (((k) + (k)) + ((k') + (k')) + 1) ?_ b5 A5 n5 c5 A'5 n'5 c'5 (((1 : Int) : Rat)) (1) ?_  ?_ ?_ ?_ ?_ ?_).mono ?_); (exact h4.qz); (exact h5.qz); (exact HS.out); (first | omega | decide | assumption); (first | omega | decide | assumption); (first | omega | decide | assumption); (first | omega | decide | assumption); rintro e w6 ⟨rfl, hb6⟩; have q6 : Below w1.heap.size w1 w6 := bnext q5 hb6; replace h := h.belw hb6; replace h' := h'.belw hb6; replace h2 := h2.belw hb6; replace h3 := h3.belw hb6; replace h4 := h4.belw hb6; replace h5 := h5.belw hb6))
  have bw6 : Below w.heap.size w w6 := bw1.trans (q6.mono bw1.size)
  clear cx1_0_0 cx1_0_1 cx1_0_2 lx1_0_0 lx1_0_1 lx1_0_2 lx1_0_3 cx1_1_0 cx1_1_1 cx1_1_2 lx1_1_0 lx1_1_1 lx1_1_2 lx1_1_3 lx1_2_0 lx1_2_1 lx1_2_2 lx1_2_3
  replace x1_0 : Blk w6 (w.heap.size) 24 #[.bool b, .slice A n c, .slice D m e] := x1_0.below q6 x1_0.lt
  replace x1_1 : Blk w6 (w.heap.size + 1) 24 #[.bool b', .slice A' n' c', .slice D' m' e'] := x1_1.below q6 x1_1.lt
  replace x1_2 : Blk w6 (w.heap.size + 1 + 1) 26 #[.bool false, .slice none 0 0, .slice none 0 0, .bool false] := x1_2.below q6 x1_2.lt
  have lw6 : w1.heap.size ≤ w6.heap.size := q6.size
  have cx1_0_0 : w6.cell? ⟨w.heap.size, 0, none⟩ = some (.bool b) := x1_0.cell 0
  have cx1_0_1 : w6.cell? ⟨w.heap.size, 1, none⟩ = some (.slice A n c) := x1_0.cell 1
  have cx1_0_2 : w6.cell? ⟨w.heap.size, 2, none⟩ = some (.slice D m e) := x1_0.cell 2
  have lx1_0_0 : w.heap.size < w6.heap.size := by have := x1_0.lt; omega
  have lx1_0_1 : w.heap.size < w6.heap.size + 1 := by have := x1_0.lt; omega
  have lx1_0_2 : w.heap.size < w6.heap.size + 2 := by have := x1_0.lt; omega
  have lx1_0_3 : w.heap.size < w6.heap.size + 3 := by have := x1_0.lt; omega
  have cx1_1_0 : w6.cell? ⟨w.heap.size + 1, 0, none⟩ = some (.bool b') := x1_1.cell 0
  have cx1_1_1 : w6.cell? ⟨w.heap.size + 1, 1, none⟩ = some (.slice A' n' c') := x1_1.cell 1
  have cx1_1_2 : w6.cell? ⟨w.heap.size + 1, 2, none⟩ = some (.slice D' m' e') := x1_1.cell 2
  have lx1_1_0 : w.heap.size + 1 < w6.heap.size := by have := x1_1.lt; omega
  have lx1_1_1 : w.heap.size < w6.heap.size := by have := x1_1.lt; omega
  have lx1_1_2 : w.heap.size < w6.heap.size + 1 := by have := x1_1.lt; omega
  have lx1_1_3 : w.heap.size < w6.heap.size + 2 := by have := x1_1.lt; omega
  go_wp2_with fail
  (with_reducible refine (t_of _ b A n c D m e (q) (k) ?_ b' A' n' c' D' m' e' (q') (k') ?_ ?_ ?_ ?_ ?_).mono ?_); (exact h); (exact h'); (first | omega | decide | assumption); (first | omega | decide | assumption); (first | omega | decide | assumption); (first | omega | decide | assumption); rintro e w7 ⟨b7, A7, n7, c7, A'7, n'7, c'7, x7, rfl, h7, hb7⟩
  clear cx1_0_0 cx1_0_1 cx1_0_2 lx1_0_0 lx1_0_1 lx1_0_2 lx1_0_3 cx1_1_0 cx1_1_1 cx1_1_2 lx1_1_0 lx1_1_1 lx1_1_2 lx1_1_3
  have q7 : Below w6.heap.size w6 w7 := hb7
  replace h := h.belw q7
  replace h' := h'.belw q7
  replace h2 := h2.belw q7
  replace h3 := h3.belw q7
  replace h4 := h4.belw q7
  replace h5 := h5.belw q7
  replace x1_0 : Blk w7 (w.heap.size) 24 #[.bool b, .slice A n c, .slice D m e] := x1_0.below q7 x1_0.lt
  replace x1_1 : Blk w7 (w.heap.size + 1) 24 #[.bool b', .slice A' n' c', .slice D' m' e'] := x1_1.below q7 x1_1.lt
  replace x1_2 : Blk w7 (w.heap.size + 1 + 1) 26 #[.bool false, .slice none 0 0, .slice none 0 0, .bool false] := x1_2.below q7 x1_2.lt
  have bw7 : Below w.heap.size w w7 := bw6.trans (q7.mono bw6.size)
  have lw7 : w6.heap.size ≤ w7.heap.size := q7.size
  clear hb7 q7 bw6
  have cx1_2_0 : w7.cell? ⟨w.heap.size + 1 + 1, 0, none⟩ = some (.bool false) := x1_2.cell 0
  have fx1_2_0 : w7.frozen? ⟨w.heap.size + 1 + 1, 0, none⟩ = false := x1_2.frozen 0
  have cx1_2_1 : w7.cell? ⟨w.heap.size + 1 + 1, 1, none⟩ = some (.slice none 0 0) := x1_2.cell 1
  have fx1_2_1 : w7.frozen? ⟨w.heap.size + 1 + 1, 1, none⟩ = false := x1_2.frozen 1
  have cx1_2_2 : w7.cell? ⟨w.heap.size + 1 + 1, 2, none⟩ = some (.slice none 0 0) := x1_2.cell 2
  have fx1_2_2 : w7.frozen? ⟨w.heap.size + 1 + 1, 2, none⟩ = false := x1_2.frozen 2
  have cx1_2_3 : w7.cell? ⟨w.heap.size + 1 + 1, 3, none⟩ = some (.bool false) := x1_2.cell 3
  have fx1_2_3 : w7.frozen? ⟨w.heap.size + 1 + 1, 3, none⟩ = false := x1_2.frozen 3
  have lx1_2_0 : w.heap.size + 2 < w7.heap.size := by have := x1_2.lt; omega
  have lx1_2_1 : w.heap.size + 1 < w7.heap.size := by have := x1_2.lt; omega
  have lx1_2_2 : w.heap.size < w7.heap.size := by have := x1_2.lt; omega
  have lx1_2_3 : w.heap.size < w7.heap.size + 1 := by have := x1_2.lt; omega
  go_wp2_with fail
  refine bodyPost_ret (v := .tuple #[.agg #[.bool b7, .slice A7 n7 c7, .slice A'7 n'7 c'7, .bool x7], .nilIface]) (by simp [results, Try.results17, go_sem, *] <;> first | rfl | exact ⟨rfl, rfl⟩) rfl ?_
  have kp := (((((Kp.refl w7).setB (p := ⟨w.heap.size + 1 + 1, 0, none⟩) x1_2.box (by decide) (.bool b7)).setB (p := ⟨w.heap.size + 1 + 1, 1, none⟩) (x1_2.box.set ⟨w.heap.size + 1 + 1, 0, none⟩ (.bool b7)) (by decide) (.slice A7 n7 c7)).setB (p := ⟨w.heap.size + 1 + 1, 2, none⟩) ((x1_2.box.set ⟨w.heap.size + 1 + 1, 0, none⟩ (.bool b7)).set ⟨w.heap.size + 1 + 1, 1, none⟩ (.slice A7 n7 c7)) (by decide) (.slice A'7 n'7 c'7)).setB (p := ⟨w.heap.size + 1 + 1, 3, none⟩) (((x1_2.box.set ⟨w.heap.size + 1 + 1, 0, none⟩ (.bool b7)).set ⟨w.heap.size + 1 + 1, 1, none⟩ (.slice A7 n7 c7)).set ⟨w.heap.size + 1 + 1, 2, none⟩ (.slice A'7 n'7 c'7)) (by decide) (.bool x7))
  exact ⟨b7, A7, n7, c7, A'7, n'7, c'7, x7, rfl, h7.keep kp, ((((bw7.setCell (p := ⟨w.heap.size + 1 + 1, 0, none⟩) (by dsimp only; omega) (.bool b7)).setCell (p := ⟨w.heap.size + 1 + 1, 1, none⟩) (by dsimp only; omega) (.slice A7 n7 c7)).setCell (p := ⟨w.heap.size + 1 + 1, 2, none⟩) (by dsimp only; omega) (.slice A'7 n'7 c'7)).setCell (p := ⟨w.heap.size + 1 + 1, 3, none⟩) (by dsimp only; omega) (.bool x7))⟩
end Go.Proofs.Ytmneloabphplmaa

/- Walks: the reference: whether two accepted turns are the same. -/
namespace Go.Proofs.Ytmneloabphplmaa
open Go Go.RowKit Bn
attribute [local go_sem ↓] Go.wp_at_zero Go.wp_at_succ
theorem g_cmp_e (w : World) (b : Bool) (A : Option Addr) (n c : Nat) (D : Option Addr) (m e : Nat) (q : Rat) (k : Nat) (h : QZ w b A n c D m e q k) (b' : Bool) (A' : Option Addr) (n' c' : Nat) (D' : Option Addr) (m' e' : Nat) (q' : Rat) (k' : Nat) (h' : QZ w b' A' n' c' D' m' e' q' k') (s : Int) (hs : (q - q').num.sign = s) (h0 : 0 < k) (hk : k ≤ 10000000) (h0' : 0 < k') (hk' : k' ≤ 10000000) : Calls Try.prog 38 #[.agg #[.bool b, .slice A n c, .slice D m e], .agg #[.bool b', .slice A' n' c', .slice D' m' e']] w (RetV w (.int .i64 s)) := by
  subst hs; exact g_cmp w b A n c D m e q k h b' A' n' c' D' m' e' q' k' h' h0 hk h0' hk'
theorem sub_sign {q q' : Rat} : (q - q').num.sign = 0 ↔ q = q' := by
  rw [Int.sign_eq_zero_iff_zero, Rat.num_eq_zero]
  constructor
  · intro h; have h2 := Rat.sub_add_cancel (a := q) (b := q'); rw [h, Rat.zero_add] at h2; exact h2.symm
  · intro h; rw [h]; exact Rat.sub_self
set_option maxRecDepth 100000 in
set_option maxHeartbeats 2000000 in
/-- linkworkref12.Same -/
theorem g_same_tt0 (w : World) (b : Bool) (A : Option Addr) (n c : Nat) (D : Option Addr) (m e : Nat) (t : TN) (k : Nat) (h : TK w b A n c D m e true t k) (b' : Bool) (A' : Option Addr) (n' c' : Nat) (D' : Option Addr) (m' e' : Nat) (t' : TN) (k' : Nat) (h' : TK w b' A' n' c' D' m' e' true t' k') (h0 : 0 < k) (hk : k ≤ 1000000) (h0' : 0 < k') (hk' : k' ≤ 1000000) (hs : (t.t - t'.t).num.sign = 0) :
    Calls Try.prog 18 #[.agg #[.bool b, .slice A n c, .slice D m e, .bool true], .agg #[.bool b', .slice A' n' c', .slice D' m' e', .bool true]] w (RetV w (.bool true)) := by
  have HS := Lib.hid hs
  clear hs
  go_enter Try.func18, Try.ntmps18
  go_wp2_with fail
  (with_reducible refine (g_cmp_e _ b A n c D m e ((t).t) (k) ?_ b' A' n' c' D' m' e' ((t').t) (k') ?_ (0) ?_ ?_ ?_ ?_ ?_).mono ?_); (exact (h.belw (((Below.refl _ _).alloc (Nat.le_refl _) _).alloc (by simp) _)).qz); (exact (h'.belw (((Below.refl _ _).alloc (Nat.le_refl _) _).alloc (by simp) _)).qz); (exact HS.out); (first | omega | decide | assumption); (first | omega | decide | assumption); (first | omega | decide | assumption); (first | omega | decide | assumption); rintro e w1 ⟨rfl, hb1⟩
  have q1 : Below w.heap.size w w1 := (((Below.refl _ _).alloc (Nat.le_refl _) _).alloc (by simp) _).trans (hb1.mono (by simp <;> omega))
  replace h := h.belw q1
  replace h' := h'.belw q1
  have x1_0 : Blk w1 (w.heap.size) 26 #[.bool b, .slice A n c, .slice D m e, .bool true] := ((blkAt _ _ _ (by simp)).alloc _).below hb1 (by simp <;> omega)
  have x1_1 : Blk w1 (w.heap.size + 1) 26 #[.bool b', .slice A' n' c', .slice D' m' e', .bool true] := (blkAt _ _ _ (by simp)).below hb1 (by simp)
  have bw1 : Below w.heap.size w w1 := (brefl w).trans (q1.mono (brefl w).size)
  have lw1 : w.heap.size + 2 ≤ w1.heap.size := by have := hb1.size; simp at this; omega
  clear hb1 q1
  go_wp2_with fail
  go_ret
  exact retB rfl bw1
set_option maxRecDepth 100000 in
set_option maxHeartbeats 2000000 in
/-- linkworkref12.Same -/
theorem g_same_tts (w : World) (b : Bool) (A : Option Addr) (n c : Nat) (D : Option Addr) (m e : Nat) (t : TN) (k : Nat) (h : TK w b A n c D m e true t k) (b' : Bool) (A' : Option Addr) (n' c' : Nat) (D' : Option Addr) (m' e' : Nat) (t' : TN) (k' : Nat) (h' : TK w b' A' n' c' D' m' e' true t' k') (h0 : 0 < k) (hk : k ≤ 1000000) (h0' : 0 < k') (hk' : k' ≤ 1000000) (s : Int) (hs : (t.t - t'.t).num.sign = s) (hne : s ≠ 0) :
    Calls Try.prog 18 #[.agg #[.bool b, .slice A n c, .slice D m e, .bool true], .agg #[.bool b', .slice A' n' c', .slice D' m' e', .bool true]] w (RetV w (.bool false)) := by
  have HS := Lib.hid hs
  have e0 : ((s : Int) == 0) = false := by simp; exact hne
  clear hs hne
  go_enter Try.func18, Try.ntmps18
  go_wp2_with fail
  (with_reducible refine (g_cmp_e _ b A n c D m e ((t).t) (k) ?_ b' A' n' c' D' m' e' ((t').t) (k') ?_ (s) ?_ ?_ ?_ ?_ ?_).mono ?_); (exact (h.belw (((Below.refl _ _).alloc (Nat.le_refl _) _).alloc (by simp) _)).qz); (exact (h'.belw (((Below.refl _ _).alloc (Nat.le_refl _) _).alloc (by simp) _)).qz); (exact HS.out); (first | omega | decide | assumption); (first | omega | decide | assumption); (first | omega | decide | assumption); (first | omega | decide | assumption); rintro e w1 ⟨rfl, hb1⟩
  have q1 : Below w.heap.size w w1 := (((Below.refl _ _).alloc (Nat.le_refl _) _).alloc (by simp) _).trans (hb1.mono (by simp <;> omega))
  replace h := h.belw q1
  replace h' := h'.belw q1
  have x1_0 : Blk w1 (w.heap.size) 26 #[.bool b, .slice A n c, .slice D m e, .bool true] := ((blkAt _ _ _ (by simp)).alloc _).below hb1 (by simp <;> omega)
  have x1_1 : Blk w1 (w.heap.size + 1) 26 #[.bool b', .slice A' n' c', .slice D' m' e', .bool true] := (blkAt _ _ _ (by simp)).below hb1 (by simp)
  have bw1 : Below w.heap.size w w1 := (brefl w).trans (q1.mono (brefl w).size)
  have lw1 : w.heap.size + 2 ≤ w1.heap.size := by have := hb1.size; simp at this; omega
  clear hb1 q1
  go_wp2_with fail
  go_ret
  exact retB rfl bw1
set_option maxRecDepth 100000 in
set_option maxHeartbeats 2000000 in
/-- linkworkref12.Same -/
theorem g_same_tf (w : World) (b : Bool) (A : Option Addr) (n c : Nat) (D : Option Addr) (m e : Nat) (t : TN) (k : Nat) (h : TK w b A n c D m e true t k) (b' : Bool) (A' : Option Addr) (n' c' : Nat) (D' : Option Addr) (m' e' : Nat) (t' : TN) (k' : Nat) (h' : TK w b' A' n' c' D' m' e' false t' k') (h0 : 0 < k) (hk : k ≤ 1000000) (h0' : 0 < k') (hk' : k' ≤ 1000000)  :
    Calls Try.prog 18 #[.agg #[.bool b, .slice A n c, .slice D m e, .bool true], .agg #[.bool b', .slice A' n' c', .slice D' m' e', .bool false]] w (RetV w (.bool false)) := by
  go_enter Try.func18, Try.ntmps18
  go_wp2_with fail
  go_ret
  exact retB rfl (((brefl w).alloc (by first | omega | (simp <;> omega)) (.cells #[.bool b, .slice A n c, .slice D m e, .bool true] 26)).alloc (by first | omega | (simp <;> omega)) (.cells #[.bool b', .slice A' n' c', .slice D' m' e', .bool false] 26))
set_option maxRecDepth 100000 in
set_option maxHeartbeats 2000000 in
/-- linkworkref12.Same -/
theorem g_same_ft (w : World) (b : Bool) (A : Option Addr) (n c : Nat) (D : Option Addr) (m e : Nat) (t : TN) (k : Nat) (h : TK w b A n c D m e false t k) (b' : Bool) (A' : Option Addr) (n' c' : Nat) (D' : Option Addr) (m' e' : Nat) (t' : TN) (k' : Nat) (h' : TK w b' A' n' c' D' m' e' true t' k') (h0 : 0 < k) (hk : k ≤ 1000000) (h0' : 0 < k') (hk' : k' ≤ 1000000)  :
    Calls Try.prog 18 #[.agg #[.bool b, .slice A n c, .slice D m e, .bool false], .agg #[.bool b', .slice A' n' c', .slice D' m' e', .bool true]] w (RetV w (.bool false)) := by
  go_enter Try.func18, Try.ntmps18
  go_wp2_with fail
  go_ret
  exact retB rfl (((brefl w).alloc (by first | omega | (simp <;> omega)) (.cells #[.bool b, .slice A n c, .slice D m e, .bool false] 26)).alloc (by first | omega | (simp <;> omega)) (.cells #[.bool b', .slice A' n' c', .slice D' m' e', .bool true] 26))
set_option maxRecDepth 100000 in
set_option maxHeartbeats 2000000 in
/-- linkworkref12.Same -/
theorem g_same_ff0 (w : World) (b : Bool) (A : Option Addr) (n c : Nat) (D : Option Addr) (m e : Nat) (t : TN) (k : Nat) (h : TK w b A n c D m e false t k) (b' : Bool) (A' : Option Addr) (n' c' : Nat) (D' : Option Addr) (m' e' : Nat) (t' : TN) (k' : Nat) (h' : TK w b' A' n' c' D' m' e' false t' k') (h0 : 0 < k) (hk : k ≤ 1000000) (h0' : 0 < k') (hk' : k' ≤ 1000000) (hs : (t.t - t'.t).num.sign = 0) :
    Calls Try.prog 18 #[.agg #[.bool b, .slice A n c, .slice D m e, .bool false], .agg #[.bool b', .slice A' n' c', .slice D' m' e', .bool false]] w (RetV w (.bool true)) := by
  have HS := Lib.hid hs
  clear hs
  go_enter Try.func18, Try.ntmps18
  go_wp2_with fail
  (with_reducible refine (g_cmp_e _ b A n c D m e ((t).t) (k) ?_ b' A' n' c' D' m' e' ((t').t) (k') ?_ (0) ?_ ?_ ?_ ?_ ?_).mono ?_); (exact (h.belw (((Below.refl _ _).alloc (Nat.le_refl _) _).alloc (by simp) _)).qz); (exact (h'.belw (((Below.refl _ _).alloc (Nat.le_refl _) _).alloc (by simp) _)).qz); (exact HS.out); (first | omega | decide | assumption); (first | omega | decide | assumption); (first | omega | decide | assumption); (first | omega | decide | assumption); rintro e w1 ⟨rfl, hb1⟩
  have q1 : Below w.heap.size w w1 := (((Below.refl _ _).alloc (Nat.le_refl _) _).alloc (by simp) _).trans (hb1.mono (by simp <;> omega))
  replace h := h.belw q1
  replace h' := h'.belw q1
  have x1_0 : Blk w1 (w.heap.size) 26 #[.bool b, .slice A n c, .slice D m e, .bool false] := ((blkAt _ _ _ (by simp)).alloc _).below hb1 (by simp <;> omega)
  have x1_1 : Blk w1 (w.heap.size + 1) 26 #[.bool b', .slice A' n' c', .slice D' m' e', .bool false] := (blkAt _ _ _ (by simp)).below hb1 (by simp)
  have bw1 : Below w.heap.size w w1 := (brefl w).trans (q1.mono (brefl w).size)
  have lw1 : w.heap.size + 2 ≤ w1.heap.size := by have := hb1.size; simp at this; omega
  clear hb1 q1
  go_wp2_with fail
  go_ret
  exact retB rfl bw1
set_option maxRecDepth 100000 in
set_option maxHeartbeats 2000000 in
/-- linkworkref12.Same -/
theorem g_same_ffs (w : World) (b : Bool) (A : Option Addr) (n c : Nat) (D : Option Addr) (m e : Nat) (t : TN) (k : Nat) (h : TK w b A n c D m e false t k) (b' : Bool) (A' : Option Addr) (n' c' : Nat) (D' : Option Addr) (m' e' : Nat) (t' : TN) (k' : Nat) (h' : TK w b' A' n' c' D' m' e' false t' k') (h0 : 0 < k) (hk : k ≤ 1000000) (h0' : 0 < k') (hk' : k' ≤ 1000000) (s : Int) (hs : (t.t - t'.t).num.sign = s) (hne : s ≠ 0) :
    Calls Try.prog 18 #[.agg #[.bool b, .slice A n c, .slice D m e, .bool false], .agg #[.bool b', .slice A' n' c', .slice D' m' e', .bool false]] w (RetV w (.bool false)) := by
  have HS := Lib.hid hs
  have e0 : ((s : Int) == 0) = false := by simp; exact hne
  clear hs hne
  go_enter Try.func18, Try.ntmps18
  go_wp2_with fail
  (with_reducible refine (g_cmp_e _ b A n c D m e ((t).t) (k) ?_ b' A' n' c' D' m' e' ((t').t) (k') ?_ (s) ?_ ?_ ?_ ?_ ?_).mono ?_); (exact (h.belw (((Below.refl _ _).alloc (Nat.le_refl _) _).alloc (by simp) _)).qz); (exact (h'.belw (((Below.refl _ _).alloc (Nat.le_refl _) _).alloc (by simp) _)).qz); (exact HS.out); (first | omega | decide | assumption); (first | omega | decide | assumption); (first | omega | decide | assumption); (first | omega | decide | assumption); rintro e w1 ⟨rfl, hb1⟩
  have q1 : Below w.heap.size w w1 := (((Below.refl _ _).alloc (Nat.le_refl _) _).alloc (by simp) _).trans (hb1.mono (by simp <;> omega))
  replace h := h.belw q1
  replace h' := h'.belw q1
  have x1_0 : Blk w1 (w.heap.size) 26 #[.bool b, .slice A n c, .slice D m e, .bool false] := ((blkAt _ _ _ (by simp)).alloc _).below hb1 (by simp <;> omega)
  have x1_1 : Blk w1 (w.heap.size + 1) 26 #[.bool b', .slice A' n' c', .slice D' m' e', .bool false] := (blkAt _ _ _ (by simp)).below hb1 (by simp)
  have bw1 : Below w.heap.size w w1 := (brefl w).trans (q1.mono (brefl w).size)
  have lw1 : w.heap.size + 2 ≤ w1.heap.size := by have := hb1.size; simp at this; omega
  clear hb1 q1
  go_wp2_with fail
  go_ret
  exact retB rfl bw1
theorem g_same (w : World) (b : Bool) (A : Option Addr) (n c : Nat) (D : Option Addr) (m e : Nat) (x : Bool) (t : TN) (k : Nat) (h : TK w b A n c D m e x t k) (b' : Bool) (A' : Option Addr) (n' c' : Nat) (D' : Option Addr) (m' e' : Nat) (x' : Bool) (t' : TN) (k' : Nat) (h' : TK w b' A' n' c' D' m' e' x' t' k') (h0 : 0 < k) (hk : k ≤ 1000000) (h0' : 0 < k') (hk' : k' ≤ 1000000) (v : Bool) (hv : v = true ↔ t = t') : Calls Try.prog 18 #[.agg #[.bool b, .slice A n c, .slice D m e, .bool x], .agg #[.bool b', .slice A' n' c', .slice D' m' e', .bool x']] w (RetV w (.bool v)) := by
  have h1 := h.2.1
  have h2 := h'.2.1
  by_cases he : t = t'
  · have hs : (t.t - t'.t).num.sign = 0 := sub_sign.2 (by rw [he])
    obtain rfl : v = true := hv.2 he
    have hx : x = x' := by rw [h1, h2, he]
    subst hx
    cases x
    · exact g_same_ff0 w b A n c D m e t k h b' A' n' c' D' m' e' t' k' h' h0 hk h0' hk' hs
    · exact g_same_tt0 w b A n c D m e t k h b' A' n' c' D' m' e' t' k' h' h0 hk h0' hk' hs
  · obtain rfl : v = false := by cases v; rfl; exact absurd (hv.1 rfl) he
    by_cases hx : x = x'
    · subst hx
      have hne : (t.t - t'.t).num.sign ≠ 0 := fun z => he (by
        obtain ⟨a, ah⟩ := t
        obtain ⟨a', ah'⟩ := t'
        have := sub_sign.1 z
        simp only at this h1 h2
        rw [this, ← h1, ← h2])
      cases x
      · exact g_same_ffs w b A n c D m e t k h b' A' n' c' D' m' e' t' k' h' h0 hk h0' hk' _ rfl hne
      · exact g_same_tts w b A n c D m e t k h b' A' n' c' D' m' e' t' k' h' h0 hk h0' hk' _ rfl hne
    · cases x <;> cases x'
      · exact absurd rfl hx
      · exact g_same_ft w b A n c D m e t k h b' A' n' c' D' m' e' t' k' h' h0 hk h0' hk'
      · exact g_same_tf w b A n c D m e t k h b' A' n' c' D' m' e' t' k' h' h0 hk h0' hk'
      · exact absurd rfl hx
theorem g_same_e (w : World) (b : Bool) (A : Option Addr) (n c : Nat) (D : Option Addr) (m e : Nat) (x : Bool) (t : TN) (k : Nat) (h : TK w b A n c D m e x t k) (b' : Bool) (A' : Option Addr) (n' c' : Nat) (D' : Option Addr) (m' e' : Nat) (x' : Bool) (t' : TN) (k' : Nat) (h' : TK w b' A' n' c' D' m' e' x' t' k') (v : Bool) (hv : v = true ↔ t = t') (h0 : 0 < k) (hk : k ≤ 1000000) (h0' : 0 < k') (hk' : k' ≤ 1000000) : Calls Try.prog 18 #[.agg #[.bool b, .slice A n c, .slice D m e, .bool x], .agg #[.bool b', .slice A' n' c', .slice D' m' e', .bool x']] w (RetV w (.bool v)) := g_same w b A n c D m e x t k h b' A' n' c' D' m' e' x' t' k' h' h0 hk h0' hk' v hv
theorem TK.zero (w : World) : TK w false none 0 0 none 0 0 false tzero 1 := ⟨⟨⟨false, [], []⟩, ⟨rfl, Wd.nil_ w, Wd.nil_ w, Nat.zero_le _, Nat.zero_le _⟩, by rfl, by rfl⟩, rfl, tzero_ok⟩
end Go.Proofs.Ytmneloabphplmaa

/- Walks: TurnGroup. -/
namespace Go.Proofs.Ytmneloabphplmaa
open Go Go.RowKit Bn
attribute [local go_sem ↓] Go.wp_at_zero Go.wp_at_succ
set_option maxRecDepth 100000 in
set_option maxHeartbeats 8000000 in
/-- linkworklaw12.TurnGroup -/
theorem l_TurnGroup (w : World) (b : Bool) (A : Option Addr) (n c : Nat) (D : Option Addr) (m e : Nat) (ra : RD) (k : Nat) (Hra : QD w b A n c D m e ra k) (b' : Bool) (A' : Option Addr) (n' c' : Nat) (D' : Option Addr) (m' e' : Nat) (rb : RD) (k' : Nat) (Hrb : QD w b' A' n' c' D' m' e' rb k') (b2 : Bool) (A2 : Option Addr) (n2 c2 : Nat) (D2 : Option Addr) (m2 e2 : Nat) (rc : RD) (k2 : Nat) (Hrc : QD w b2 A2 n2 c2 D2 m2 e2 rc k2) (x x' x2 : Bool) :
    Calls Try.prog 4 #[.agg #[.bool b, .slice A n c, .slice D m e, .bool x], .agg #[.bool b', .slice A' n' c', .slice D' m' e', .bool x'], .agg #[.bool b2, .slice A2 n2 c2, .slice D2 m2 e2, .bool x2]] w (RetV w (.bool true)) := by
  go_enter Try.func4, Try.ntmps4
  go_wp2_with fail
  (with_reducible refine (l_awake _).mono ?_); rintro e w1 ⟨rfl, hb1⟩
  have q1 : Below w.heap.size w w1 := ((((Below.refl _ _).alloc (Nat.le_refl _) _).alloc (by simp) _).alloc (by simp <;> omega) _).trans (hb1.mono (by simp <;> omega))
  replace Hra := Hra.belw q1
  replace Hrb := Hrb.belw q1
  replace Hrc := Hrc.belw q1
  have x1_0 : Blk w1 (w.heap.size) 26 #[.bool b, .slice A n c, .slice D m e, .bool x] := (((blkAt _ _ _ (by simp)).alloc _).alloc _).below hb1 (by simp <;> omega)
  have x1_1 : Blk w1 (w.heap.size + 1) 26 #[.bool b', .slice A' n' c', .slice D' m' e', .bool x'] := ((blkAt _ _ _ (by simp)).alloc _).below hb1 (by simp <;> omega)
  have x1_2 : Blk w1 (w.heap.size + 1 + 1) 26 #[.bool b2, .slice A2 n2 c2, .slice D2 m2 e2, .bool x2] := (blkAt _ _ _ (by simp)).below hb1 (by simp)
  have bw1 : Below w.heap.size w w1 := (brefl w).trans (q1.mono (brefl w).size)
  have lw1 : w.heap.size + 3 ≤ w1.heap.size := by have := hb1.size; simp at this; omega
  clear hb1 q1
  have cx1_0_0 : w1.cell? ⟨w.heap.size, 0, none⟩ = some (.bool b) := x1_0.cell 0
  have cx1_0_1 : w1.cell? ⟨w.heap.size, 1, none⟩ = some (.slice A n c) := x1_0.cell 1
  have cx1_0_2 : w1.cell? ⟨w.heap.size, 2, none⟩ = some (.slice D m e) := x1_0.cell 2
  have cx1_0_3 : w1.cell? ⟨w.heap.size, 3, none⟩ = some (.bool x) := x1_0.cell 3
  have lx1_0_0 : w.heap.size < w1.heap.size := by have := x1_0.lt; omega
  have lx1_0_1 : w.heap.size < w1.heap.size + 1 := by have := x1_0.lt; omega
  have lx1_0_2 : w.heap.size < w1.heap.size + 2 := by have := x1_0.lt; omega
  have lx1_0_3 : w.heap.size < w1.heap.size + 3 := by have := x1_0.lt; omega
  have cx1_1_0 : w1.cell? ⟨w.heap.size + 1, 0, none⟩ = some (.bool b') := x1_1.cell 0
  have cx1_1_1 : w1.cell? ⟨w.heap.size + 1, 1, none⟩ = some (.slice A' n' c') := x1_1.cell 1
  have cx1_1_2 : w1.cell? ⟨w.heap.size + 1, 2, none⟩ = some (.slice D' m' e') := x1_1.cell 2
  have cx1_1_3 : w1.cell? ⟨w.heap.size + 1, 3, none⟩ = some (.bool x') := x1_1.cell 3
  have lx1_1_0 : w.heap.size + 1 < w1.heap.size := by have := x1_1.lt; omega
  have lx1_1_1 : w.heap.size < w1.heap.size := by have := x1_1.lt; omega
  have lx1_1_2 : w.heap.size < w1.heap.size + 1 := by have := x1_1.lt; omega
  have lx1_1_3 : w.heap.size < w1.heap.size + 2 := by have := x1_1.lt; omega
  have cx1_2_0 : w1.cell? ⟨w.heap.size + 1 + 1, 0, none⟩ = some (.bool b2) := x1_2.cell 0
  have cx1_2_1 : w1.cell? ⟨w.heap.size + 1 + 1, 1, none⟩ = some (.slice A2 n2 c2) := x1_2.cell 1
  have cx1_2_2 : w1.cell? ⟨w.heap.size + 1 + 1, 2, none⟩ = some (.slice D2 m2 e2) := x1_2.cell 2
  have cx1_2_3 : w1.cell? ⟨w.heap.size + 1 + 1, 3, none⟩ = some (.bool x2) := x1_2.cell 3
  have lx1_2_0 : w.heap.size + 2 < w1.heap.size := by have := x1_2.lt; omega
  have lx1_2_1 : w.heap.size + 1 < w1.heap.size := by have := x1_2.lt; omega
  have lx1_2_2 : w.heap.size < w1.heap.size := by have := x1_2.lt; omega
  have lx1_2_3 : w.heap.size < w1.heap.size + 1 := by have := x1_2.lt; omega
  go_wp2_with fail
  (with_reducible refine (l_short _ (w1.heap.size) 3 (fun i : Nat => if i = 0 then n else if i = 1 then n' else n2) (fun i : Nat => if i = 0 then m else if i = 1 then m' else m2) ?_ ?_).mono ?_); (exact rs3 (blkAt _ _ _ (by simp))); (decide); rintro e w2 ⟨r2, rfl, hr2, hb2⟩
  clear cx1_0_0 cx1_0_1 cx1_0_2 cx1_0_3 lx1_0_0 lx1_0_1 lx1_0_2 lx1_0_3 cx1_1_0 cx1_1_1 cx1_1_2 cx1_1_3 lx1_1_0 lx1_1_1 lx1_1_2 lx1_1_3 cx1_2_0 cx1_2_1 cx1_2_2 cx1_2_3 lx1_2_0 lx1_2_1 lx1_2_2 lx1_2_3
  have q2 : Below w1.heap.size w1 w2 := ((Below.refl _ _).alloc (Nat.le_refl _) _).trans (hb2.mono (by simp))
  replace Hra := Hra.belw q2
  replace Hrb := Hrb.belw q2
  replace Hrc := Hrc.belw q2
  replace x1_0 : Blk w2 (w.heap.size) 26 #[.bool b, .slice A n c, .slice D m e, .bool x] := x1_0.below q2 x1_0.lt
  replace x1_1 : Blk w2 (w.heap.size + 1) 26 #[.bool b', .slice A' n' c', .slice D' m' e', .bool x'] := x1_1.below q2 x1_1.lt
  replace x1_2 : Blk w2 (w.heap.size + 1 + 1) 26 #[.bool b2, .slice A2 n2 c2, .slice D2 m2 e2, .bool x2] := x1_2.below q2 x1_2.lt
  have x2_0 : Blk w2 (w1.heap.size) 24 #[.bool b, .slice A n c, .slice D m e, .bool b', .slice A' n' c', .slice D' m' e', .bool b2, .slice A2 n2 c2, .slice D2 m2 e2] := (blkAt _ _ _ (by simp)).below hb2 (by simp)
  have bw2 : Below w.heap.size w w2 := bw1.trans (q2.mono bw1.size)
  have lw2 : w1.heap.size + 1 ≤ w2.heap.size := by have := hb2.size; simp at this; omega
  clear hb2 q2 bw1
  have cx1_0_0 : w2.cell? ⟨w.heap.size, 0, none⟩ = some (.bool b) := x1_0.cell 0
  have cx1_0_1 : w2.cell? ⟨w.heap.size, 1, none⟩ = some (.slice A n c) := x1_0.cell 1
  have cx1_0_2 : w2.cell? ⟨w.heap.size, 2, none⟩ = some (.slice D m e) := x1_0.cell 2
  have cx1_0_3 : w2.cell? ⟨w.heap.size, 3, none⟩ = some (.bool x) := x1_0.cell 3
  have lx1_0_0 : w.heap.size < w2.heap.size := by have := x1_0.lt; omega
  have lx1_0_1 : w.heap.size < w2.heap.size + 1 := by have := x1_0.lt; omega
  have lx1_0_2 : w.heap.size < w2.heap.size + 2 := by have := x1_0.lt; omega
  have lx1_0_3 : w.heap.size < w2.heap.size + 3 := by have := x1_0.lt; omega
  have cx1_1_0 : w2.cell? ⟨w.heap.size + 1, 0, none⟩ = some (.bool b') := x1_1.cell 0
  have cx1_1_1 : w2.cell? ⟨w.heap.size + 1, 1, none⟩ = some (.slice A' n' c') := x1_1.cell 1
  have cx1_1_2 : w2.cell? ⟨w.heap.size + 1, 2, none⟩ = some (.slice D' m' e') := x1_1.cell 2
  have cx1_1_3 : w2.cell? ⟨w.heap.size + 1, 3, none⟩ = some (.bool x') := x1_1.cell 3
  have lx1_1_0 : w.heap.size + 1 < w2.heap.size := by have := x1_1.lt; omega
  have lx1_1_1 : w.heap.size < w2.heap.size := by have := x1_1.lt; omega
  have lx1_1_2 : w.heap.size < w2.heap.size + 1 := by have := x1_1.lt; omega
  have lx1_1_3 : w.heap.size < w2.heap.size + 2 := by have := x1_1.lt; omega
  have cx1_2_0 : w2.cell? ⟨w.heap.size + 1 + 1, 0, none⟩ = some (.bool b2) := x1_2.cell 0
  have cx1_2_1 : w2.cell? ⟨w.heap.size + 1 + 1, 1, none⟩ = some (.slice A2 n2 c2) := x1_2.cell 1
  have cx1_2_2 : w2.cell? ⟨w.heap.size + 1 + 1, 2, none⟩ = some (.slice D2 m2 e2) := x1_2.cell 2
  have cx1_2_3 : w2.cell? ⟨w.heap.size + 1 + 1, 3, none⟩ = some (.bool x2) := x1_2.cell 3
  have lx1_2_0 : w.heap.size + 2 < w2.heap.size := by have := x1_2.lt; omega
  have lx1_2_1 : w.heap.size + 1 < w2.heap.size := by have := x1_2.lt; omega
  have lx1_2_2 : w.heap.size < w2.heap.size := by have := x1_2.lt; omega
  have lx1_2_3 : w.heap.size < w2.heap.size + 1 := by have := x1_2.lt; omega
  cases r2
  · go_wp2_with fail
    (with_reducible refine (l_awake _).mono ?_); rintro e w3 ⟨rfl, hb3⟩
    clear cx1_0_0 cx1_0_1 cx1_0_2 cx1_0_3 lx1_0_0 lx1_0_1 lx1_0_2 lx1_0_3 cx1_1_0 cx1_1_1 cx1_1_2 cx1_1_3 lx1_1_0 lx1_1_1 lx1_1_2 lx1_1_3 cx1_2_0 cx1_2_1 cx1_2_2 cx1_2_3 lx1_2_0 lx1_2_1 lx1_2_2 lx1_2_3
    have q3 : Below w2.heap.size w2 w3 := hb3
    replace Hra := Hra.belw q3
    replace Hrb := Hrb.belw q3
    replace Hrc := Hrc.belw q3
    replace x1_0 : Blk w3 (w.heap.size) 26 #[.bool b, .slice A n c, .slice D m e, .bool x] := x1_0.below q3 x1_0.lt
    replace x1_1 : Blk w3 (w.heap.size + 1) 26 #[.bool b', .slice A' n' c', .slice D' m' e', .bool x'] := x1_1.below q3 x1_1.lt
    replace x1_2 : Blk w3 (w.heap.size + 1 + 1) 26 #[.bool b2, .slice A2 n2 c2, .slice D2 m2 e2, .bool x2] := x1_2.below q3 x1_2.lt
    replace x2_0 : Blk w3 (w1.heap.size) 24 #[.bool b, .slice A n c, .slice D m e, .bool b', .slice A' n' c', .slice D' m' e', .bool b2, .slice A2 n2 c2, .slice D2 m2 e2] := x2_0.below q3 x2_0.lt
    have bw3 : Below w.heap.size w w3 := bw2.trans (q3.mono bw2.size)
    have lw3 : w2.heap.size ≤ w3.heap.size := q3.size
    clear hb3 q3 bw2
    go_wp2_with fail
    go_ret
    exact retB rfl bw3
  · have hs0 := hr2 rfl 0 (by decide)
    have hs1 := hr2 rfl 1 (by decide)
    have hs2 := hr2 rfl 2 (by decide)
    clear hr2
    replace Hra := QD.short Hra hs0
    replace Hrb := QD.short Hrb hs1
    replace Hrc := QD.short Hrc hs2
    clear hs0 hs1 hs2
    go_wp2_with fail
    (with_reducible refine (l_good _ (w2.heap.size) 3 (6) (fun i : Nat => if i = 0 then (ra) else if i = 1 then (rb) else (rc)) (fun i : Nat => if i = 0 then x else if i = 1 then x' else x2) ?_ ?_ ?_ ?_).mono ?_); (exact gs3 (blkAt _ _ _ (by simp)) ((Hra.belw ((Below.refl _ _).alloc (Nat.le_refl _) _))) ((Hrb.belw ((Below.refl _ _).alloc (Nat.le_refl _) _))) ((Hrc.belw ((Below.refl _ _).alloc (Nat.le_refl _) _)))); (decide); (decide); (decide); rintro e w3 ⟨r3, rfl, hr3, hb3⟩
    clear cx1_0_0 cx1_0_1 cx1_0_2 cx1_0_3 lx1_0_0 lx1_0_1 lx1_0_2 lx1_0_3 cx1_1_0 cx1_1_1 cx1_1_2 cx1_1_3 lx1_1_0 lx1_1_1 lx1_1_2 lx1_1_3 cx1_2_0 cx1_2_1 cx1_2_2 cx1_2_3 lx1_2_0 lx1_2_1 lx1_2_2 lx1_2_3
    have q3 : Below w2.heap.size w2 w3 := ((Below.refl _ _).alloc (Nat.le_refl _) _).trans (hb3.mono (by simp))
    replace Hra := Hra.belw q3
    replace Hrb := Hrb.belw q3
    replace Hrc := Hrc.belw q3
    replace x1_0 : Blk w3 (w.heap.size) 26 #[.bool b, .slice A n c, .slice D m e, .bool x] := x1_0.below q3 x1_0.lt
    replace x1_1 : Blk w3 (w.heap.size + 1) 26 #[.bool b', .slice A' n' c', .slice D' m' e', .bool x'] := x1_1.below q3 x1_1.lt
    replace x1_2 : Blk w3 (w.heap.size + 1 + 1) 26 #[.bool b2, .slice A2 n2 c2, .slice D2 m2 e2, .bool x2] := x1_2.below q3 x1_2.lt
    replace x2_0 : Blk w3 (w1.heap.size) 24 #[.bool b, .slice A n c, .slice D m e, .bool b', .slice A' n' c', .slice D' m' e', .bool b2, .slice A2 n2 c2, .slice D2 m2 e2] := x2_0.below q3 x2_0.lt
    have x3_0 : Blk w3 (w2.heap.size) 26 #[.bool b, .slice A n c, .slice D m e, .bool x, .bool b', .slice A' n' c', .slice D' m' e', .bool x', .bool b2, .slice A2 n2 c2, .slice D2 m2 e2, .bool x2] := (blkAt _ _ _ (by simp)).below hb3 (by simp)
    have bw3 : Below w.heap.size w w3 := bw2.trans (q3.mono bw2.size)
    have lw3 : w2.heap.size + 1 ≤ w3.heap.size := by have := hb3.size; simp at this; omega
    clear hb3 q3 bw2
    have cx1_0_0 : w3.cell? ⟨w.heap.size, 0, none⟩ = some (.bool b) := x1_0.cell 0
    have cx1_0_1 : w3.cell? ⟨w.heap.size, 1, none⟩ = some (.slice A n c) := x1_0.cell 1
    have cx1_0_2 : w3.cell? ⟨w.heap.size, 2, none⟩ = some (.slice D m e) := x1_0.cell 2
    have cx1_0_3 : w3.cell? ⟨w.heap.size, 3, none⟩ = some (.bool x) := x1_0.cell 3
    have lx1_0_0 : w.heap.size < w3.heap.size := by have := x1_0.lt; omega
    have lx1_0_1 : w.heap.size < w3.heap.size + 1 := by have := x1_0.lt; omega
    have lx1_0_2 : w.heap.size < w3.heap.size + 2 := by have := x1_0.lt; omega
    have lx1_0_3 : w.heap.size < w3.heap.size + 3 := by have := x1_0.lt; omega
    have cx1_1_0 : w3.cell? ⟨w.heap.size + 1, 0, none⟩ = some (.bool b') := x1_1.cell 0
    have cx1_1_1 : w3.cell? ⟨w.heap.size + 1, 1, none⟩ = some (.slice A' n' c') := x1_1.cell 1
    have cx1_1_2 : w3.cell? ⟨w.heap.size + 1, 2, none⟩ = some (.slice D' m' e') := x1_1.cell 2
    have cx1_1_3 : w3.cell? ⟨w.heap.size + 1, 3, none⟩ = some (.bool x') := x1_1.cell 3
    have lx1_1_0 : w.heap.size + 1 < w3.heap.size := by have := x1_1.lt; omega
    have lx1_1_1 : w.heap.size < w3.heap.size := by have := x1_1.lt; omega
    have lx1_1_2 : w.heap.size < w3.heap.size + 1 := by have := x1_1.lt; omega
    have lx1_1_3 : w.heap.size < w3.heap.size + 2 := by have := x1_1.lt; omega
    cases r3
    · go_wp2_with fail
      (with_reducible refine (l_awake _).mono ?_); rintro e w4 ⟨rfl, hb4⟩
      clear cx1_0_0 cx1_0_1 cx1_0_2 cx1_0_3 lx1_0_0 lx1_0_1 lx1_0_2 lx1_0_3 cx1_1_0 cx1_1_1 cx1_1_2 cx1_1_3 lx1_1_0 lx1_1_1 lx1_1_2 lx1_1_3
      have q4 : Below w3.heap.size w3 w4 := hb4
      replace Hra := Hra.belw q4
      replace Hrb := Hrb.belw q4
      replace Hrc := Hrc.belw q4
      replace x1_0 : Blk w4 (w.heap.size) 26 #[.bool b, .slice A n c, .slice D m e, .bool x] := x1_0.below q4 x1_0.lt
      replace x1_1 : Blk w4 (w.heap.size + 1) 26 #[.bool b', .slice A' n' c', .slice D' m' e', .bool x'] := x1_1.below q4 x1_1.lt
      replace x1_2 : Blk w4 (w.heap.size + 1 + 1) 26 #[.bool b2, .slice A2 n2 c2, .slice D2 m2 e2, .bool x2] := x1_2.below q4 x1_2.lt
      replace x2_0 : Blk w4 (w1.heap.size) 24 #[.bool b, .slice A n c, .slice D m e, .bool b', .slice A' n' c', .slice D' m' e', .bool b2, .slice A2 n2 c2, .slice D2 m2 e2] := x2_0.below q4 x2_0.lt
      replace x3_0 : Blk w4 (w2.heap.size) 26 #[.bool b, .slice A n c, .slice D m e, .bool x, .bool b', .slice A' n' c', .slice D' m' e', .bool x', .bool b2, .slice A2 n2 c2, .slice D2 m2 e2, .bool x2] := x3_0.below q4 x3_0.lt
      have bw4 : Below w.heap.size w w4 := bw3.trans (q4.mono bw3.size)
      have lw4 : w3.heap.size ≤ w4.heap.size := q4.size
      clear hb4 q4 bw3
      go_wp2_with fail
      go_ret
      exact retB rfl bw4
    · have hTa : TK w3 b A n c D m e x ⟨ra.q, x⟩ 6 := acc_tk Hra (hr3 rfl 0 (by decide))
      have hTb : TK w3 b' A' n' c' D' m' e' x' ⟨rb.q, x'⟩ 6 := acc_tk Hrb (hr3 rfl 1 (by decide))
      have hTc : TK w3 b2 A2 n2 c2 D2 m2 e2 x2 ⟨rc.q, x2⟩ 6 := acc_tk Hrc (hr3 rfl 2 (by decide))
      clear hr3
      have HOK := Lib.hid (And.intro hTa.2.2 (And.intro hTb.2.2 hTc.2.2))
      clear Hra Hrb Hrc
      go_wp2_with fail
      have HU := Lib.hid (show tcos ⟨ra.q, x⟩ * tcos ⟨ra.q, x⟩ + tsin ⟨ra.q, x⟩ * tsin ⟨ra.q, x⟩ = ((1 : Int) : Rat) from tcs _)
      (with_reducible refine (t_Add _ b A n c D m e x (⟨ra.q, x⟩) (6) ?_ b' A' n' c' D' m' e' x' (⟨rb.q, x'⟩) (6) ?_ ?_ ?_ ?_ ?_).mono ?_); (exact hTa); (exact hTb); (first | omega | decide | assumption); (first | omega | decide | assumption); (first | omega | decide | assumption); (first | omega | decide | assumption); rintro e w4 ⟨b4, A4, n4, c4, A'4, n'4, c'4, x4, rfl, h4, hb4⟩
      clear cx1_0_0 cx1_0_1 cx1_0_2 cx1_0_3 lx1_0_0 lx1_0_1 lx1_0_2 lx1_0_3 cx1_1_0 cx1_1_1 cx1_1_2 cx1_1_3 lx1_1_0 lx1_1_1 lx1_1_2 lx1_1_3
      have q4 : Below w3.heap.size w3 w4 := hb4
      replace hTa := hTa.belw q4
      replace hTb := hTb.belw q4
      replace hTc := hTc.belw q4
      replace x1_0 : Blk w4 (w.heap.size) 26 #[.bool b, .slice A n c, .slice D m e, .bool x] := x1_0.below q4 x1_0.lt
      replace x1_1 : Blk w4 (w.heap.size + 1) 26 #[.bool b', .slice A' n' c', .slice D' m' e', .bool x'] := x1_1.below q4 x1_1.lt
      replace x1_2 : Blk w4 (w.heap.size + 1 + 1) 26 #[.bool b2, .slice A2 n2 c2, .slice D2 m2 e2, .bool x2] := x1_2.below q4 x1_2.lt
      replace x2_0 : Blk w4 (w1.heap.size) 24 #[.bool b, .slice A n c, .slice D m e, .bool b', .slice A' n' c', .slice D' m' e', .bool b2, .slice A2 n2 c2, .slice D2 m2 e2] := x2_0.below q4 x2_0.lt
      replace x3_0 : Blk w4 (w2.heap.size) 26 #[.bool b, .slice A n c, .slice D m e, .bool x, .bool b', .slice A' n' c', .slice D' m' e', .bool x', .bool b2, .slice A2 n2 c2, .slice D2 m2 e2, .bool x2] := x3_0.below q4 x3_0.lt
      have bw4 : Below w.heap.size w w4 := bw3.trans (q4.mono bw3.size)
      have lw4 : w3.heap.size ≤ w4.heap.size := q4.size
      clear hb4 q4 bw3
      have cx1_0_0 : w4.cell? ⟨w.heap.size, 0, none⟩ = some (.bool b) := x1_0.cell 0
      have cx1_0_1 : w4.cell? ⟨w.heap.size, 1, none⟩ = some (.slice A n c) := x1_0.cell 1
      have cx1_0_2 : w4.cell? ⟨w.heap.size, 2, none⟩ = some (.slice D m e) := x1_0.cell 2
      have cx1_0_3 : w4.cell? ⟨w.heap.size, 3, none⟩ = some (.bool x) := x1_0.cell 3
      have lx1_0_0 : w.heap.size < w4.heap.size := by have := x1_0.lt; omega
      have lx1_0_1 : w.heap.size < w4.heap.size + 1 := by have := x1_0.lt; omega
      have lx1_0_2 : w.heap.size < w4.heap.size + 2 := by have := x1_0.lt; omega
      have lx1_0_3 : w.heap.size < w4.heap.size + 3 := by have := x1_0.lt; omega
      have cx1_1_0 : w4.cell? ⟨w.heap.size + 1, 0, none⟩ = some (.bool b') := x1_1.cell 0
      have cx1_1_1 : w4.cell? ⟨w.heap.size + 1, 1, none⟩ = some (.slice A' n' c') := x1_1.cell 1
      have cx1_1_2 : w4.cell? ⟨w.heap.size + 1, 2, none⟩ = some (.slice D' m' e') := x1_1.cell 2
      have cx1_1_3 : w4.cell? ⟨w.heap.size + 1, 3, none⟩ = some (.bool x') := x1_1.cell 3
      have lx1_1_0 : w.heap.size + 1 < w4.heap.size := by have := x1_1.lt; omega
      have lx1_1_1 : w.heap.size < w4.heap.size := by have := x1_1.lt; omega
      have lx1_1_2 : w.heap.size < w4.heap.size + 1 := by have := x1_1.lt; omega
      have lx1_1_3 : w.heap.size < w4.heap.size + 2 := by have := x1_1.lt; omega
      go_wp2_with fail
      (with_reducible refine (t_Add _ b' A' n' c' D' m' e' x' (⟨rb.q, x'⟩) (6) ?_ b A n c D m e x (⟨ra.q, x⟩) (6) ?_ ?_ ?_ ?_ ?_).mono ?_); (exact (hTb.belw ((Below.refl _ _).alloc (Nat.le_refl _) _))); (exact (hTa.belw ((Below.refl _ _).alloc (Nat.le_refl _) _))); (first | omega | decide | assumption); (first | omega | decide | assumption); (first | omega | decide | assumption); (first | omega | decide | assumption); rintro e w5 ⟨b5, A5, n5, c5, A'5, n'5, c'5, x5, rfl, h5, hb5⟩
      clear cx1_0_0 cx1_0_1 cx1_0_2 cx1_0_3 lx1_0_0 lx1_0_1 lx1_0_2 lx1_0_3 cx1_1_0 cx1_1_1 cx1_1_2 cx1_1_3 lx1_1_0 lx1_1_1 lx1_1_2 lx1_1_3
      have q5 : Below w4.heap.size w4 w5 := ((Below.refl _ _).alloc (Nat.le_refl _) _).trans (hb5.mono (by simp))
      replace hTa := hTa.belw q5
      replace hTb := hTb.belw q5
      replace hTc := hTc.belw q5
      replace h4 := h4.belw q5
      replace x1_0 : Blk w5 (w.heap.size) 26 #[.bool b, .slice A n c, .slice D m e, .bool x] := x1_0.below q5 x1_0.lt
      replace x1_1 : Blk w5 (w.heap.size + 1) 26 #[.bool b', .slice A' n' c', .slice D' m' e', .bool x'] := x1_1.below q5 x1_1.lt
      replace x1_2 : Blk w5 (w.heap.size + 1 + 1) 26 #[.bool b2, .slice A2 n2 c2, .slice D2 m2 e2, .bool x2] := x1_2.below q5 x1_2.lt
      replace x2_0 : Blk w5 (w1.heap.size) 24 #[.bool b, .slice A n c, .slice D m e, .bool b', .slice A' n' c', .slice D' m' e', .bool b2, .slice A2 n2 c2, .slice D2 m2 e2] := x2_0.below q5 x2_0.lt
      replace x3_0 : Blk w5 (w2.heap.size) 26 #[.bool b, .slice A n c, .slice D m e, .bool x, .bool b', .slice A' n' c', .slice D' m' e', .bool x', .bool b2, .slice A2 n2 c2, .slice D2 m2 e2, .bool x2] := x3_0.below q5 x3_0.lt
      have x5_0 : Blk w5 (w4.heap.size) 26 #[.bool b4, .slice A4 n4 c4, .slice A'4 n'4 c'4, .bool x4] := (blkAt _ _ _ (by simp)).below hb5 (by simp)
      have bw5 : Below w.heap.size w w5 := bw4.trans (q5.mono bw4.size)
      have lw5 : w4.heap.size + 1 ≤ w5.heap.size := by have := hb5.size; simp at this; omega
      clear hb5 q5 bw4
      have cx1_2_0 : w5.cell? ⟨w.heap.size + 1 + 1, 0, none⟩ = some (.bool b2) := x1_2.cell 0
      have cx1_2_1 : w5.cell? ⟨w.heap.size + 1 + 1, 1, none⟩ = some (.slice A2 n2 c2) := x1_2.cell 1
      have cx1_2_2 : w5.cell? ⟨w.heap.size + 1 + 1, 2, none⟩ = some (.slice D2 m2 e2) := x1_2.cell 2
      have cx1_2_3 : w5.cell? ⟨w.heap.size + 1 + 1, 3, none⟩ = some (.bool x2) := x1_2.cell 3
      have lx1_2_0 : w.heap.size + 2 < w5.heap.size := by have := x1_2.lt; omega
      have lx1_2_1 : w.heap.size + 1 < w5.heap.size := by have := x1_2.lt; omega
      have lx1_2_2 : w.heap.size < w5.heap.size := by have := x1_2.lt; omega
      have lx1_2_3 : w.heap.size < w5.heap.size + 1 := by have := x1_2.lt; omega
      have cx5_0_0 : w5.cell? ⟨w4.heap.size, 0, none⟩ = some (.bool b4) := x5_0.cell 0
      have cx5_0_1 : w5.cell? ⟨w4.heap.size, 1, none⟩ = some (.slice A4 n4 c4) := x5_0.cell 1
      have cx5_0_2 : w5.cell? ⟨w4.heap.size, 2, none⟩ = some (.slice A'4 n'4 c'4) := x5_0.cell 2
      have cx5_0_3 : w5.cell? ⟨w4.heap.size, 3, none⟩ = some (.bool x4) := x5_0.cell 3
      have lx5_0_0 : w4.heap.size < w5.heap.size := by have := x5_0.lt; omega
      have lx5_0_1 : w4.heap.size < w5.heap.size + 1 := by have := x5_0.lt; omega
      have lx5_0_2 : w4.heap.size < w5.heap.size + 2 := by have := x5_0.lt; omega
      have lx5_0_3 : w4.heap.size < w5.heap.size + 3 := by have := x5_0.lt; omega
      go_wp2_with fail
      (with_reducible refine (t_Add _ b4 A4 n4 c4 A'4 n'4 c'4 x4 (tadd (⟨ra.q, x⟩) (⟨rb.q, x'⟩)) (2 * (6) + 2 * (6) + 3) ?_ b2 A2 n2 c2 D2 m2 e2 x2 (⟨rc.q, x2⟩) (6) ?_ ?_ ?_ ?_ ?_).mono ?_); (exact (h4.belw ((Below.refl _ _).alloc (Nat.le_refl _) _)).tk); (exact (hTc.belw ((Below.refl _ _).alloc (Nat.le_refl _) _))); (first | omega | decide | assumption); (first | omega | decide | assumption); (first | omega | decide | assumption); (first | omega | decide | assumption); rintro e w6 ⟨b6, A6, n6, c6, A'6, n'6, c'6, x6, rfl, h6, hb6⟩
      clear cx1_2_0 cx1_2_1 cx1_2_2 cx1_2_3 lx1_2_0 lx1_2_1 lx1_2_2 lx1_2_3 cx5_0_0 cx5_0_1 cx5_0_2 cx5_0_3 lx5_0_0 lx5_0_1 lx5_0_2 lx5_0_3
      have q6 : Below w5.heap.size w5 w6 := ((Below.refl _ _).alloc (Nat.le_refl _) _).trans (hb6.mono (by simp))
      replace hTa := hTa.belw q6
      replace hTb := hTb.belw q6
      replace hTc := hTc.belw q6
      replace h4 := h4.belw q6
      replace h5 := h5.belw q6
      replace x1_0 : Blk w6 (w.heap.size) 26 #[.bool b, .slice A n c, .slice D m e, .bool x] := x1_0.below q6 x1_0.lt
      replace x1_1 : Blk w6 (w.heap.size + 1) 26 #[.bool b', .slice A' n' c', .slice D' m' e', .bool x'] := x1_1.below q6 x1_1.lt
      replace x1_2 : Blk w6 (w.heap.size + 1 + 1) 26 #[.bool b2, .slice A2 n2 c2, .slice D2 m2 e2, .bool x2] := x1_2.below q6 x1_2.lt
      replace x2_0 : Blk w6 (w1.heap.size) 24 #[.bool b, .slice A n c, .slice D m e, .bool b', .slice A' n' c', .slice D' m' e', .bool b2, .slice A2 n2 c2, .slice D2 m2 e2] := x2_0.below q6 x2_0.lt
      replace x3_0 : Blk w6 (w2.heap.size) 26 #[.bool b, .slice A n c, .slice D m e, .bool x, .bool b', .slice A' n' c', .slice D' m' e', .bool x', .bool b2, .slice A2 n2 c2, .slice D2 m2 e2, .bool x2] := x3_0.below q6 x3_0.lt
      replace x5_0 : Blk w6 (w4.heap.size) 26 #[.bool b4, .slice A4 n4 c4, .slice A'4 n'4 c'4, .bool x4] := x5_0.below q6 x5_0.lt
      have x6_0 : Blk w6 (w5.heap.size) 26 #[.bool b5, .slice A5 n5 c5, .slice A'5 n'5 c'5, .bool x5] := (blkAt _ _ _ (by simp)).below hb6 (by simp)
      have bw6 : Below w.heap.size w w6 := bw5.trans (q6.mono bw5.size)
      have lw6 : w5.heap.size + 1 ≤ w6.heap.size := by have := hb6.size; simp at this; omega
      clear hb6 q6 bw5
      have cx1_1_0 : w6.cell? ⟨w.heap.size + 1, 0, none⟩ = some (.bool b') := x1_1.cell 0
      have cx1_1_1 : w6.cell? ⟨w.heap.size + 1, 1, none⟩ = some (.slice A' n' c') := x1_1.cell 1
      have cx1_1_2 : w6.cell? ⟨w.heap.size + 1, 2, none⟩ = some (.slice D' m' e') := x1_1.cell 2
      have cx1_1_3 : w6.cell? ⟨w.heap.size + 1, 3, none⟩ = some (.bool x') := x1_1.cell 3
      have lx1_1_0 : w.heap.size + 1 < w6.heap.size := by have := x1_1.lt; omega
      have lx1_1_1 : w.heap.size < w6.heap.size := by have := x1_1.lt; omega
      have lx1_1_2 : w.heap.size < w6.heap.size + 1 := by have := x1_1.lt; omega
      have lx1_1_3 : w.heap.size < w6.heap.size + 2 := by have := x1_1.lt; omega
      have cx1_2_0 : w6.cell? ⟨w.heap.size + 1 + 1, 0, none⟩ = some (.bool b2) := x1_2.cell 0
      have cx1_2_1 : w6.cell? ⟨w.heap.size + 1 + 1, 1, none⟩ = some (.slice A2 n2 c2) := x1_2.cell 1
      have cx1_2_2 : w6.cell? ⟨w.heap.size + 1 + 1, 2, none⟩ = some (.slice D2 m2 e2) := x1_2.cell 2
      have cx1_2_3 : w6.cell? ⟨w.heap.size + 1 + 1, 3, none⟩ = some (.bool x2) := x1_2.cell 3
      have lx1_2_0 : w.heap.size + 2 < w6.heap.size := by have := x1_2.lt; omega
      have lx1_2_1 : w.heap.size + 1 < w6.heap.size := by have := x1_2.lt; omega
      have lx1_2_2 : w.heap.size < w6.heap.size := by have := x1_2.lt; omega
      have lx1_2_3 : w.heap.size < w6.heap.size + 1 := by have := x1_2.lt; omega
      go_wp2_with fail
      (with_reducible refine (t_Add _ b' A' n' c' D' m' e' x' (⟨rb.q, x'⟩) (6) ?_ b2 A2 n2 c2 D2 m2 e2 x2 (⟨rc.q, x2⟩) (6) ?_ ?_ ?_ ?_ ?_).mono ?_); (exact (hTb.belw ((Below.refl _ _).alloc (Nat.le_refl _) _))); (exact (hTc.belw ((Below.refl _ _).alloc (Nat.le_refl _) _))); (first | omega | decide | assumption); (first | omega | decide | assumption); (first | omega | decide | assumption); (first | omega | decide | assumption); rintro e w7 ⟨b7, A7, n7, c7, A'7, n'7, c'7, x7, rfl, h7, hb7⟩
      clear cx1_1_0 cx1_1_1 cx1_1_2 cx1_1_3 lx1_1_0 lx1_1_1 lx1_1_2 lx1_1_3 cx1_2_0 cx1_2_1 cx1_2_2 cx1_2_3 lx1_2_0 lx1_2_1 lx1_2_2 lx1_2_3
      have q7 : Below w6.heap.size w6 w7 := ((Below.refl _ _).alloc (Nat.le_refl _) _).trans (hb7.mono (by simp))
      replace hTa := hTa.belw q7
      replace hTb := hTb.belw q7
      replace hTc := hTc.belw q7
      replace h4 := h4.belw q7
      replace h5 := h5.belw q7
      replace h6 := h6.belw q7
      replace x1_0 : Blk w7 (w.heap.size) 26 #[.bool b, .slice A n c, .slice D m e, .bool x] := x1_0.below q7 x1_0.lt
      replace x1_1 : Blk w7 (w.heap.size + 1) 26 #[.bool b', .slice A' n' c', .slice D' m' e', .bool x'] := x1_1.below q7 x1_1.lt
      replace x1_2 : Blk w7 (w.heap.size + 1 + 1) 26 #[.bool b2, .slice A2 n2 c2, .slice D2 m2 e2, .bool x2] := x1_2.below q7 x1_2.lt
      replace x2_0 : Blk w7 (w1.heap.size) 24 #[.bool b, .slice A n c, .slice D m e, .bool b', .slice A' n' c', .slice D' m' e', .bool b2, .slice A2 n2 c2, .slice D2 m2 e2] := x2_0.below q7 x2_0.lt
      replace x3_0 : Blk w7 (w2.heap.size) 26 #[.bool b, .slice A n c, .slice D m e, .bool x, .bool b', .slice A' n' c', .slice D' m' e', .bool x', .bool b2, .slice A2 n2 c2, .slice D2 m2 e2, .bool x2] := x3_0.below q7 x3_0.lt
      replace x5_0 : Blk w7 (w4.heap.size) 26 #[.bool b4, .slice A4 n4 c4, .slice A'4 n'4 c'4, .bool x4] := x5_0.below q7 x5_0.lt
      replace x6_0 : Blk w7 (w5.heap.size) 26 #[.bool b5, .slice A5 n5 c5, .slice A'5 n'5 c'5, .bool x5] := x6_0.below q7 x6_0.lt
      have x7_0 : Blk w7 (w6.heap.size) 26 #[.bool b6, .slice A6 n6 c6, .slice A'6 n'6 c'6, .bool x6] := (blkAt _ _ _ (by simp)).below hb7 (by simp)
      have bw7 : Below w.heap.size w w7 := bw6.trans (q7.mono bw6.size)
      have lw7 : w6.heap.size + 1 ≤ w7.heap.size := by have := hb7.size; simp at this; omega
      clear hb7 q7 bw6
      have cx1_0_0 : w7.cell? ⟨w.heap.size, 0, none⟩ = some (.bool b) := x1_0.cell 0
      have cx1_0_1 : w7.cell? ⟨w.heap.size, 1, none⟩ = some (.slice A n c) := x1_0.cell 1
      have cx1_0_2 : w7.cell? ⟨w.heap.size, 2, none⟩ = some (.slice D m e) := x1_0.cell 2
      have cx1_0_3 : w7.cell? ⟨w.heap.size, 3, none⟩ = some (.bool x) := x1_0.cell 3
      have lx1_0_0 : w.heap.size < w7.heap.size := by have := x1_0.lt; omega
      have lx1_0_1 : w.heap.size < w7.heap.size + 1 := by have := x1_0.lt; omega
      have lx1_0_2 : w.heap.size < w7.heap.size + 2 := by have := x1_0.lt; omega
      have lx1_0_3 : w.heap.size < w7.heap.size + 3 := by have := x1_0.lt; omega
      go_wp2_with fail
      (with_reducible refine (t_Add _ b A n c D m e x (⟨ra.q, x⟩) (6) ?_ b7 A7 n7 c7 A'7 n'7 c'7 x7 (tadd (⟨rb.q, x'⟩) (⟨rc.q, x2⟩)) (2 * (6) + 2 * (6) + 3) ?_ ?_ ?_ ?_ ?_).mono ?_); (exact (hTa.belw ((Below.refl _ _).alloc (Nat.le_refl _) _))); (exact (h7.belw ((Below.refl _ _).alloc (Nat.le_refl _) _)).tk); (first | omega | decide | assumption); (first | omega | decide | assumption); (first | omega | decide | assumption); (first | omega | decide | assumption); rintro e w8 ⟨b8, A8, n8, c8, A'8, n'8, c'8, x8, rfl, h8, hb8⟩
      clear cx1_0_0 cx1_0_1 cx1_0_2 cx1_0_3 lx1_0_0 lx1_0_1 lx1_0_2 lx1_0_3
      have q8 : Below w7.heap.size w7 w8 := ((Below.refl _ _).alloc (Nat.le_refl _) _).trans (hb8.mono (by simp))
      replace hTa := hTa.belw q8
      replace hTb := hTb.belw q8
      replace hTc := hTc.belw q8
      replace h4 := h4.belw q8
      replace h5 := h5.belw q8
      replace h6 := h6.belw q8
      replace h7 := h7.belw q8
      replace x1_0 : Blk w8 (w.heap.size) 26 #[.bool b, .slice A n c, .slice D m e, .bool x] := x1_0.below q8 x1_0.lt
      replace x1_1 : Blk w8 (w.heap.size + 1) 26 #[.bool b', .slice A' n' c', .slice D' m' e', .bool x'] := x1_1.below q8 x1_1.lt
      replace x1_2 : Blk w8 (w.heap.size + 1 + 1) 26 #[.bool b2, .slice A2 n2 c2, .slice D2 m2 e2, .bool x2] := x1_2.below q8 x1_2.lt
      replace x2_0 : Blk w8 (w1.heap.size) 24 #[.bool b, .slice A n c, .slice D m e, .bool b', .slice A' n' c', .slice D' m' e', .bool b2, .slice A2 n2 c2, .slice D2 m2 e2] := x2_0.below q8 x2_0.lt
      replace x3_0 : Blk w8 (w2.heap.size) 26 #[.bool b, .slice A n c, .slice D m e, .bool x, .bool b', .slice A' n' c', .slice D' m' e', .bool x', .bool b2, .slice A2 n2 c2, .slice D2 m2 e2, .bool x2] := x3_0.below q8 x3_0.lt
      replace x5_0 : Blk w8 (w4.heap.size) 26 #[.bool b4, .slice A4 n4 c4, .slice A'4 n'4 c'4, .bool x4] := x5_0.below q8 x5_0.lt
      replace x6_0 : Blk w8 (w5.heap.size) 26 #[.bool b5, .slice A5 n5 c5, .slice A'5 n'5 c'5, .bool x5] := x6_0.below q8 x6_0.lt
      replace x7_0 : Blk w8 (w6.heap.size) 26 #[.bool b6, .slice A6 n6 c6, .slice A'6 n'6 c'6, .bool x6] := x7_0.below q8 x7_0.lt
      have x8_0 : Blk w8 (w7.heap.size) 26 #[.bool b7, .slice A7 n7 c7, .slice A'7 n'7 c'7, .bool x7] := (blkAt _ _ _ (by simp)).below hb8 (by simp)
      have bw8 : Below w.heap.size w w8 := bw7.trans (q8.mono bw7.size)
      have lw8 : w7.heap.size + 1 ≤ w8.heap.size := by have := hb8.size; simp at this; omega
      clear hb8 q8 bw7
      have cx1_0_0 : w8.cell? ⟨w.heap.size, 0, none⟩ = some (.bool b) := x1_0.cell 0
      have cx1_0_1 : w8.cell? ⟨w.heap.size, 1, none⟩ = some (.slice A n c) := x1_0.cell 1
      have cx1_0_2 : w8.cell? ⟨w.heap.size, 2, none⟩ = some (.slice D m e) := x1_0.cell 2
      have cx1_0_3 : w8.cell? ⟨w.heap.size, 3, none⟩ = some (.bool x) := x1_0.cell 3
      have lx1_0_0 : w.heap.size < w8.heap.size := by have := x1_0.lt; omega
      have lx1_0_1 : w.heap.size < w8.heap.size + 1 := by have := x1_0.lt; omega
      have lx1_0_2 : w.heap.size < w8.heap.size + 2 := by have := x1_0.lt; omega
      have lx1_0_3 : w.heap.size < w8.heap.size + 3 := by have := x1_0.lt; omega
      go_wp2_with fail
      (with_reducible refine (t_Neg _ b A n c D m e x (⟨ra.q, x⟩) (6) ?_ ?_ ?_).mono ?_); (exact (hTa.belw ((Below.refl _ _).alloc (Nat.le_refl _) _))); (first | omega | decide | assumption); (first | omega | decide | assumption); rintro e w9 ⟨b9, A9, n9, c9, A'9, n'9, c'9, x9, rfl, h9, hb9⟩
      clear cx1_0_0 cx1_0_1 cx1_0_2 cx1_0_3 lx1_0_0 lx1_0_1 lx1_0_2 lx1_0_3
      have q9 : Below w8.heap.size w8 w9 := ((Below.refl _ _).alloc (Nat.le_refl _) _).trans (hb9.mono (by simp))
      replace hTa := hTa.belw q9
      replace hTb := hTb.belw q9
      replace hTc := hTc.belw q9
      replace h4 := h4.belw q9
      replace h5 := h5.belw q9
      replace h6 := h6.belw q9
      replace h7 := h7.belw q9
      replace h8 := h8.belw q9
      replace x1_0 : Blk w9 (w.heap.size) 26 #[.bool b, .slice A n c, .slice D m e, .bool x] := x1_0.below q9 x1_0.lt
      replace x1_1 : Blk w9 (w.heap.size + 1) 26 #[.bool b', .slice A' n' c', .slice D' m' e', .bool x'] := x1_1.below q9 x1_1.lt
      replace x1_2 : Blk w9 (w.heap.size + 1 + 1) 26 #[.bool b2, .slice A2 n2 c2, .slice D2 m2 e2, .bool x2] := x1_2.below q9 x1_2.lt
      replace x2_0 : Blk w9 (w1.heap.size) 24 #[.bool b, .slice A n c, .slice D m e, .bool b', .slice A' n' c', .slice D' m' e', .bool b2, .slice A2 n2 c2, .slice D2 m2 e2] := x2_0.below q9 x2_0.lt
      replace x3_0 : Blk w9 (w2.heap.size) 26 #[.bool b, .slice A n c, .slice D m e, .bool x, .bool b', .slice A' n' c', .slice D' m' e', .bool x', .bool b2, .slice A2 n2 c2, .slice D2 m2 e2, .bool x2] := x3_0.below q9 x3_0.lt
      replace x5_0 : Blk w9 (w4.heap.size) 26 #[.bool b4, .slice A4 n4 c4, .slice A'4 n'4 c'4, .bool x4] := x5_0.below q9 x5_0.lt
      replace x6_0 : Blk w9 (w5.heap.size) 26 #[.bool b5, .slice A5 n5 c5, .slice A'5 n'5 c'5, .bool x5] := x6_0.below q9 x6_0.lt
      replace x7_0 : Blk w9 (w6.heap.size) 26 #[.bool b6, .slice A6 n6 c6, .slice A'6 n'6 c'6, .bool x6] := x7_0.below q9 x7_0.lt
      replace x8_0 : Blk w9 (w7.heap.size) 26 #[.bool b7, .slice A7 n7 c7, .slice A'7 n'7 c'7, .bool x7] := x8_0.below q9 x8_0.lt
      have x9_0 : Blk w9 (w8.heap.size) 26 #[.bool b8, .slice A8 n8 c8, .slice A'8 n'8 c'8, .bool x8] := (blkAt _ _ _ (by simp)).below hb9 (by simp)
      have bw9 : Below w.heap.size w w9 := bw8.trans (q9.mono bw8.size)
      have lw9 : w8.heap.size + 1 ≤ w9.heap.size := by have := hb9.size; simp at this; omega
      clear hb9 q9 bw8
      have cx1_0_0 : w9.cell? ⟨w.heap.size, 0, none⟩ = some (.bool b) := x1_0.cell 0
      have cx1_0_1 : w9.cell? ⟨w.heap.size, 1, none⟩ = some (.slice A n c) := x1_0.cell 1
      have cx1_0_2 : w9.cell? ⟨w.heap.size, 2, none⟩ = some (.slice D m e) := x1_0.cell 2
      have cx1_0_3 : w9.cell? ⟨w.heap.size, 3, none⟩ = some (.bool x) := x1_0.cell 3
      have lx1_0_0 : w.heap.size < w9.heap.size := by have := x1_0.lt; omega
      have lx1_0_1 : w.heap.size < w9.heap.size + 1 := by have := x1_0.lt; omega
      have lx1_0_2 : w.heap.size < w9.heap.size + 2 := by have := x1_0.lt; omega
      have lx1_0_3 : w.heap.size < w9.heap.size + 3 := by have := x1_0.lt; omega
      go_wp2_with fail
      (with_reducible refine (t_Add _ b A n c D m e x (⟨ra.q, x⟩) (6) ?_ b9 A9 n9 c9 A'9 n'9 c'9 x9 (tneg (⟨ra.q, x⟩)) ((6)) ?_ ?_ ?_ ?_ ?_).mono ?_); (exact (hTa.belw ((Below.refl _ _).alloc (Nat.le_refl _) _))); (exact (h9.belw ((Below.refl _ _).alloc (Nat.le_refl _) _)).tk); (first | omega | decide | assumption); (first | omega | decide | assumption); (first | omega | decide | assumption); (first | omega | decide | assumption); rintro e w10 ⟨b10, A10, n10, c10, A'10, n'10, c'10, x10, rfl, h10, hb10⟩
      clear cx1_0_0 cx1_0_1 cx1_0_2 cx1_0_3 lx1_0_0 lx1_0_1 lx1_0_2 lx1_0_3
      have q10 : Below w9.heap.size w9 w10 := ((Below.refl _ _).alloc (Nat.le_refl _) _).trans (hb10.mono (by simp))
      replace hTa := hTa.belw q10
      replace hTb := hTb.belw q10
      replace hTc := hTc.belw q10
      replace h4 := h4.belw q10
      replace h5 := h5.belw q10
      replace h6 := h6.belw q10
      replace h7 := h7.belw q10
      replace h8 := h8.belw q10
      replace h9 := h9.belw q10
      replace x1_0 : Blk w10 (w.heap.size) 26 #[.bool b, .slice A n c, .slice D m e, .bool x] := x1_0.below q10 x1_0.lt
      replace x1_1 : Blk w10 (w.heap.size + 1) 26 #[.bool b', .slice A' n' c', .slice D' m' e', .bool x'] := x1_1.below q10 x1_1.lt
      replace x1_2 : Blk w10 (w.heap.size + 1 + 1) 26 #[.bool b2, .slice A2 n2 c2, .slice D2 m2 e2, .bool x2] := x1_2.below q10 x1_2.lt
      replace x2_0 : Blk w10 (w1.heap.size) 24 #[.bool b, .slice A n c, .slice D m e, .bool b', .slice A' n' c', .slice D' m' e', .bool b2, .slice A2 n2 c2, .slice D2 m2 e2] := x2_0.below q10 x2_0.lt
      replace x3_0 : Blk w10 (w2.heap.size) 26 #[.bool b, .slice A n c, .slice D m e, .bool x, .bool b', .slice A' n' c', .slice D' m' e', .bool x', .bool b2, .slice A2 n2 c2, .slice D2 m2 e2, .bool x2] := x3_0.below q10 x3_0.lt
      replace x5_0 : Blk w10 (w4.heap.size) 26 #[.bool b4, .slice A4 n4 c4, .slice A'4 n'4 c'4, .bool x4] := x5_0.below q10 x5_0.lt
      replace x6_0 : Blk w10 (w5.heap.size) 26 #[.bool b5, .slice A5 n5 c5, .slice A'5 n'5 c'5, .bool x5] := x6_0.below q10 x6_0.lt
      replace x7_0 : Blk w10 (w6.heap.size) 26 #[.bool b6, .slice A6 n6 c6, .slice A'6 n'6 c'6, .bool x6] := x7_0.below q10 x7_0.lt
      replace x8_0 : Blk w10 (w7.heap.size) 26 #[.bool b7, .slice A7 n7 c7, .slice A'7 n'7 c'7, .bool x7] := x8_0.below q10 x8_0.lt
      replace x9_0 : Blk w10 (w8.heap.size) 26 #[.bool b8, .slice A8 n8 c8, .slice A'8 n'8 c'8, .bool x8] := x9_0.below q10 x9_0.lt
      have x10_0 : Blk w10 (w9.heap.size) 26 #[.bool b9, .slice A9 n9 c9, .slice A'9 n'9 c'9, .bool x9] := (blkAt _ _ _ (by simp)).below hb10 (by simp)
      have bw10 : Below w.heap.size w w10 := bw9.trans (q10.mono bw9.size)
      have lw10 : w9.heap.size + 1 ≤ w10.heap.size := by have := hb10.size; simp at this; omega
      clear hb10 q10 bw9
      have cx1_0_0 : w10.cell? ⟨w.heap.size, 0, none⟩ = some (.bool b) := x1_0.cell 0
      have cx1_0_1 : w10.cell? ⟨w.heap.size, 1, none⟩ = some (.slice A n c) := x1_0.cell 1
      have cx1_0_2 : w10.cell? ⟨w.heap.size, 2, none⟩ = some (.slice D m e) := x1_0.cell 2
      have cx1_0_3 : w10.cell? ⟨w.heap.size, 3, none⟩ = some (.bool x) := x1_0.cell 3
      have lx1_0_0 : w.heap.size < w10.heap.size := by have := x1_0.lt; omega
      have lx1_0_1 : w.heap.size < w10.heap.size + 1 := by have := x1_0.lt; omega
      have lx1_0_2 : w.heap.size < w10.heap.size + 2 := by have := x1_0.lt; omega
      have lx1_0_3 : w.heap.size < w10.heap.size + 3 := by have := x1_0.lt; omega
      go_wp2_with fail
      (with_reducible refine (t_cos _ b A n c D m e x (⟨ra.q, x⟩) (6) ?_ ?_ ?_).mono ?_); (exact (hTa.belw ((Below.refl _ _).alloc (Nat.le_refl _) _))); (first | omega | decide | assumption); (first | omega | decide | assumption); rintro e w11 ⟨b11, A11, n11, c11, A'11, n'11, c'11, rfl, h11, hb11⟩
      clear cx1_0_0 cx1_0_1 cx1_0_2 cx1_0_3 lx1_0_0 lx1_0_1 lx1_0_2 lx1_0_3
      have q11 : Below w10.heap.size w10 w11 := ((Below.refl _ _).alloc (Nat.le_refl _) _).trans (hb11.mono (by simp))
      replace hTa := hTa.belw q11
      replace hTb := hTb.belw q11
      replace hTc := hTc.belw q11
      replace h4 := h4.belw q11
      replace h5 := h5.belw q11
      replace h6 := h6.belw q11
      replace h7 := h7.belw q11
      replace h8 := h8.belw q11
      replace h9 := h9.belw q11
      replace h10 := h10.belw q11
      replace x1_0 : Blk w11 (w.heap.size) 26 #[.bool b, .slice A n c, .slice D m e, .bool x] := x1_0.below q11 x1_0.lt
      replace x1_1 : Blk w11 (w.heap.size + 1) 26 #[.bool b', .slice A' n' c', .slice D' m' e', .bool x'] := x1_1.below q11 x1_1.lt
      replace x1_2 : Blk w11 (w.heap.size + 1 + 1) 26 #[.bool b2, .slice A2 n2 c2, .slice D2 m2 e2, .bool x2] := x1_2.below q11 x1_2.lt
      replace x2_0 : Blk w11 (w1.heap.size) 24 #[.bool b, .slice A n c, .slice D m e, .bool b', .slice A' n' c', .slice D' m' e', .bool b2, .slice A2 n2 c2, .slice D2 m2 e2] := x2_0.below q11 x2_0.lt
      replace x3_0 : Blk w11 (w2.heap.size) 26 #[.bool b, .slice A n c, .slice D m e, .bool x, .bool b', .slice A' n' c', .slice D' m' e', .bool x', .bool b2, .slice A2 n2 c2, .slice D2 m2 e2, .bool x2] := x3_0.below q11 x3_0.lt
      replace x5_0 : Blk w11 (w4.heap.size) 26 #[.bool b4, .slice A4 n4 c4, .slice A'4 n'4 c'4, .bool x4] := x5_0.below q11 x5_0.lt
      replace x6_0 : Blk w11 (w5.heap.size) 26 #[.bool b5, .slice A5 n5 c5, .slice A'5 n'5 c'5, .bool x5] := x6_0.below q11 x6_0.lt
      replace x7_0 : Blk w11 (w6.heap.size) 26 #[.bool b6, .slice A6 n6 c6, .slice A'6 n'6 c'6, .bool x6] := x7_0.below q11 x7_0.lt
      replace x8_0 : Blk w11 (w7.heap.size) 26 #[.bool b7, .slice A7 n7 c7, .slice A'7 n'7 c'7, .bool x7] := x8_0.below q11 x8_0.lt
      replace x9_0 : Blk w11 (w8.heap.size) 26 #[.bool b8, .slice A8 n8 c8, .slice A'8 n'8 c'8, .bool x8] := x9_0.below q11 x9_0.lt
      replace x10_0 : Blk w11 (w9.heap.size) 26 #[.bool b9, .slice A9 n9 c9, .slice A'9 n'9 c'9, .bool x9] := x10_0.below q11 x10_0.lt
      have x11_0 : Blk w11 (w10.heap.size) 26 #[.bool b10, .slice A10 n10 c10, .slice A'10 n'10 c'10, .bool x10] := (blkAt _ _ _ (by simp)).below hb11 (by simp)
      have bw11 : Below w.heap.size w w11 := bw10.trans (q11.mono bw10.size)
      have lw11 : w10.heap.size + 1 ≤ w11.heap.size := by have := hb11.size; simp at this; omega
      clear hb11 q11 bw10
      have cx1_0_0 : w11.cell? ⟨w.heap.size, 0, none⟩ = some (.bool b) := x1_0.cell 0
      have cx1_0_1 : w11.cell? ⟨w.heap.size, 1, none⟩ = some (.slice A n c) := x1_0.cell 1
      have cx1_0_2 : w11.cell? ⟨w.heap.size, 2, none⟩ = some (.slice D m e) := x1_0.cell 2
      have cx1_0_3 : w11.cell? ⟨w.heap.size, 3, none⟩ = some (.bool x) := x1_0.cell 3
      have lx1_0_0 : w.heap.size < w11.heap.size := by have := x1_0.lt; omega
      have lx1_0_1 : w.heap.size < w11.heap.size + 1 := by have := x1_0.lt; omega
      have lx1_0_2 : w.heap.size < w11.heap.size + 2 := by have := x1_0.lt; omega
      have lx1_0_3 : w.heap.size < w11.heap.size + 3 := by have := x1_0.lt; omega
      go_wp2_with fail
      (with_reducible refine (t_sin _ b A n c D m e x (⟨ra.q, x⟩) (6) ?_ ?_ ?_).mono ?_); (exact (hTa.belw ((Below.refl _ _).alloc (Nat.le_refl _) _))); (first | omega | decide | assumption); (first | omega | decide | assumption); rintro e w12 ⟨b12, A12, n12, c12, A'12, n'12, c'12, rfl, h12, hb12⟩
      clear cx1_0_0 cx1_0_1 cx1_0_2 cx1_0_3 lx1_0_0 lx1_0_1 lx1_0_2 lx1_0_3
      have q12 : Below w11.heap.size w11 w12 := ((Below.refl _ _).alloc (Nat.le_refl _) _).trans (hb12.mono (by simp))
      replace hTa := hTa.belw q12
      replace hTb := hTb.belw q12
      replace hTc := hTc.belw q12
      replace h4 := h4.belw q12
      replace h5 := h5.belw q12
      replace h6 := h6.belw q12
      replace h7 := h7.belw q12
      replace h8 := h8.belw q12
      replace h9 := h9.belw q12
      replace h10 := h10.belw q12
      replace h11 := h11.belw q12
      replace x1_0 : Blk w12 (w.heap.size) 26 #[.bool b, .slice A n c, .slice D m e, .bool x] := x1_0.below q12 x1_0.lt
      replace x1_1 : Blk w12 (w.heap.size + 1) 26 #[.bool b', .slice A' n' c', .slice D' m' e', .bool x'] := x1_1.below q12 x1_1.lt
      replace x1_2 : Blk w12 (w.heap.size + 1 + 1) 26 #[.bool b2, .slice A2 n2 c2, .slice D2 m2 e2, .bool x2] := x1_2.below q12 x1_2.lt
      replace x2_0 : Blk w12 (w1.heap.size) 24 #[.bool b, .slice A n c, .slice D m e, .bool b', .slice A' n' c', .slice D' m' e', .bool b2, .slice A2 n2 c2, .slice D2 m2 e2] := x2_0.below q12 x2_0.lt
      replace x3_0 : Blk w12 (w2.heap.size) 26 #[.bool b, .slice A n c, .slice D m e, .bool x, .bool b', .slice A' n' c', .slice D' m' e', .bool x', .bool b2, .slice A2 n2 c2, .slice D2 m2 e2, .bool x2] := x3_0.below q12 x3_0.lt
      replace x5_0 : Blk w12 (w4.heap.size) 26 #[.bool b4, .slice A4 n4 c4, .slice A'4 n'4 c'4, .bool x4] := x5_0.below q12 x5_0.lt
      replace x6_0 : Blk w12 (w5.heap.size) 26 #[.bool b5, .slice A5 n5 c5, .slice A'5 n'5 c'5, .bool x5] := x6_0.below q12 x6_0.lt
      replace x7_0 : Blk w12 (w6.heap.size) 26 #[.bool b6, .slice A6 n6 c6, .slice A'6 n'6 c'6, .bool x6] := x7_0.below q12 x7_0.lt
      replace x8_0 : Blk w12 (w7.heap.size) 26 #[.bool b7, .slice A7 n7 c7, .slice A'7 n'7 c'7, .bool x7] := x8_0.below q12 x8_0.lt
      replace x9_0 : Blk w12 (w8.heap.size) 26 #[.bool b8, .slice A8 n8 c8, .slice A'8 n'8 c'8, .bool x8] := x9_0.below q12 x9_0.lt
      replace x10_0 : Blk w12 (w9.heap.size) 26 #[.bool b9, .slice A9 n9 c9, .slice A'9 n'9 c'9, .bool x9] := x10_0.below q12 x10_0.lt
      replace x11_0 : Blk w12 (w10.heap.size) 26 #[.bool b10, .slice A10 n10 c10, .slice A'10 n'10 c'10, .bool x10] := x11_0.below q12 x11_0.lt
      have x12_0 : Blk w12 (w11.heap.size) 24 #[.bool b11, .slice A11 n11 c11, .slice A'11 n'11 c'11] := (blkAt _ _ _ (by simp)).below hb12 (by simp)
      have bw12 : Below w.heap.size w w12 := bw11.trans (q12.mono bw11.size)
      have lw12 : w11.heap.size + 1 ≤ w12.heap.size := by have := hb12.size; simp at this; omega
      clear hb12 q12 bw11
      have cx12_0_0 : w12.cell? ⟨w11.heap.size, 0, none⟩ = some (.bool b11) := x12_0.cell 0
      have cx12_0_1 : w12.cell? ⟨w11.heap.size, 1, none⟩ = some (.slice A11 n11 c11) := x12_0.cell 1
      have cx12_0_2 : w12.cell? ⟨w11.heap.size, 2, none⟩ = some (.slice A'11 n'11 c'11) := x12_0.cell 2
      have lx12_0_0 : w11.heap.size < w12.heap.size := by have := x12_0.lt; omega
      have lx12_0_1 : w11.heap.size < w12.heap.size + 1 := by have := x12_0.lt; omega
      have lx12_0_2 : w11.heap.size < w12.heap.size + 2 := by have := x12_0.lt; omega
      have lx12_0_3 : w11.heap.size < w12.heap.size + 3 := by have := x12_0.lt; omega
      go_wp2_with fail
      (with_reducible refine (t_Of _ b11 A11 n11 c11 A'11 n'11 c'11 (tcos (⟨ra.q, x⟩)) (4 * (6) + 4) ?_ b12 A12 n12 c12 A'12 n'12 c'12 (tsin (⟨ra.q, x⟩)) (4 * (6) + 4) ?_ ?_ ?_ ?_ ?_ ?_).mono ?_); (exact (h11.belw ((Below.refl _ _).alloc (Nat.le_refl _) _)).qz); (exact (h12.belw ((Below.refl _ _).alloc (Nat.le_refl _) _)).qz); (first | omega | decide | assumption); (first | omega | decide | assumption); (first | omega | decide | assumption); (first | omega | decide | assumption); (exact HU.out); rintro e w13 ⟨b13, A13, n13, c13, A'13, n'13, c'13, x13, rfl, h13, hb13⟩
      clear cx12_0_0 cx12_0_1 cx12_0_2 lx12_0_0 lx12_0_1 lx12_0_2 lx12_0_3
      have q13 : Below w12.heap.size w12 w13 := ((Below.refl _ _).alloc (Nat.le_refl _) _).trans (hb13.mono (by simp))
      replace hTa := hTa.belw q13
      replace hTb := hTb.belw q13
      replace hTc := hTc.belw q13
      replace h4 := h4.belw q13
      replace h5 := h5.belw q13
      replace h6 := h6.belw q13
      replace h7 := h7.belw q13
      replace h8 := h8.belw q13
      replace h9 := h9.belw q13
      replace h10 := h10.belw q13
      replace h11 := h11.belw q13
      replace h12 := h12.belw q13
      replace x1_0 : Blk w13 (w.heap.size) 26 #[.bool b, .slice A n c, .slice D m e, .bool x] := x1_0.below q13 x1_0.lt
      replace x1_1 : Blk w13 (w.heap.size + 1) 26 #[.bool b', .slice A' n' c', .slice D' m' e', .bool x'] := x1_1.below q13 x1_1.lt
      replace x1_2 : Blk w13 (w.heap.size + 1 + 1) 26 #[.bool b2, .slice A2 n2 c2, .slice D2 m2 e2, .bool x2] := x1_2.below q13 x1_2.lt
      replace x2_0 : Blk w13 (w1.heap.size) 24 #[.bool b, .slice A n c, .slice D m e, .bool b', .slice A' n' c', .slice D' m' e', .bool b2, .slice A2 n2 c2, .slice D2 m2 e2] := x2_0.below q13 x2_0.lt
      replace x3_0 : Blk w13 (w2.heap.size) 26 #[.bool b, .slice A n c, .slice D m e, .bool x, .bool b', .slice A' n' c', .slice D' m' e', .bool x', .bool b2, .slice A2 n2 c2, .slice D2 m2 e2, .bool x2] := x3_0.below q13 x3_0.lt
      replace x5_0 : Blk w13 (w4.heap.size) 26 #[.bool b4, .slice A4 n4 c4, .slice A'4 n'4 c'4, .bool x4] := x5_0.below q13 x5_0.lt
      replace x6_0 : Blk w13 (w5.heap.size) 26 #[.bool b5, .slice A5 n5 c5, .slice A'5 n'5 c'5, .bool x5] := x6_0.below q13 x6_0.lt
      replace x7_0 : Blk w13 (w6.heap.size) 26 #[.bool b6, .slice A6 n6 c6, .slice A'6 n'6 c'6, .bool x6] := x7_0.below q13 x7_0.lt
      replace x8_0 : Blk w13 (w7.heap.size) 26 #[.bool b7, .slice A7 n7 c7, .slice A'7 n'7 c'7, .bool x7] := x8_0.below q13 x8_0.lt
      replace x9_0 : Blk w13 (w8.heap.size) 26 #[.bool b8, .slice A8 n8 c8, .slice A'8 n'8 c'8, .bool x8] := x9_0.below q13 x9_0.lt
      replace x10_0 : Blk w13 (w9.heap.size) 26 #[.bool b9, .slice A9 n9 c9, .slice A'9 n'9 c'9, .bool x9] := x10_0.below q13 x10_0.lt
      replace x11_0 : Blk w13 (w10.heap.size) 26 #[.bool b10, .slice A10 n10 c10, .slice A'10 n'10 c'10, .bool x10] := x11_0.below q13 x11_0.lt
      replace x12_0 : Blk w13 (w11.heap.size) 24 #[.bool b11, .slice A11 n11 c11, .slice A'11 n'11 c'11] := x12_0.below q13 x12_0.lt
      have x13_0 : Blk w13 (w12.heap.size) 24 #[.bool b12, .slice A12 n12 c12, .slice A'12 n'12 c'12] := (blkAt _ _ _ (by simp)).below hb13 (by simp)
      have bw13 : Below w.heap.size w w13 := bw12.trans (q13.mono bw12.size)
      have lw13 : w12.heap.size + 1 ≤ w13.heap.size := by have := hb13.size; simp at this; omega
      clear hb13 q13 bw12
      go_wp2_with fail
      have p14 : Kp w13 (w13.alloc (.cells #[.bool b13, .slice A13 n13 c13, .slice A'13 n'13 c'13, .bool x13] 26)) := ((Kp.refl w13).alloc (.cells #[.bool b13, .slice A13 n13 c13, .slice A'13 n'13 c'13, .bool x13] 26))
      have bw14 : Below w.heap.size w (w13.alloc (.cells #[.bool b13, .slice A13 n13 c13, .slice A'13 n'13 c'13, .bool x13] 26)) := (bw13.alloc (by first | omega | (simp <;> omega)) (.cells #[.bool b13, .slice A13 n13 c13, .slice A'13 n'13 c'13, .bool x13] 26))
      have x14_0 : Blk (w13.alloc (.cells #[.bool b13, .slice A13 n13 c13, .slice A'13 n'13 c'13, .bool x13] 26)) (w13.heap.size) 26 #[.bool b13, .slice A13 n13 c13, .slice A'13 n'13 c'13, .bool x13] := (blkAt _ _ _ (by simp))
      replace x1_0 : Blk (w13.alloc (.cells #[.bool b13, .slice A13 n13 c13, .slice A'13 n'13 c'13, .bool x13] 26)) (w.heap.size) 26 #[.bool b, .slice A n c, .slice D m e, .bool x] := (x1_0.alloc (.cells #[.bool b13, .slice A13 n13 c13, .slice A'13 n'13 c'13, .bool x13] 26))
      replace x1_1 : Blk (w13.alloc (.cells #[.bool b13, .slice A13 n13 c13, .slice A'13 n'13 c'13, .bool x13] 26)) (w.heap.size + 1) 26 #[.bool b', .slice A' n' c', .slice D' m' e', .bool x'] := (x1_1.alloc (.cells #[.bool b13, .slice A13 n13 c13, .slice A'13 n'13 c'13, .bool x13] 26))
      replace x1_2 : Blk (w13.alloc (.cells #[.bool b13, .slice A13 n13 c13, .slice A'13 n'13 c'13, .bool x13] 26)) (w.heap.size + 1 + 1) 26 #[.bool b2, .slice A2 n2 c2, .slice D2 m2 e2, .bool x2] := (x1_2.alloc (.cells #[.bool b13, .slice A13 n13 c13, .slice A'13 n'13 c'13, .bool x13] 26))
      replace x2_0 : Blk (w13.alloc (.cells #[.bool b13, .slice A13 n13 c13, .slice A'13 n'13 c'13, .bool x13] 26)) (w1.heap.size) 24 #[.bool b, .slice A n c, .slice D m e, .bool b', .slice A' n' c', .slice D' m' e', .bool b2, .slice A2 n2 c2, .slice D2 m2 e2] := (x2_0.alloc (.cells #[.bool b13, .slice A13 n13 c13, .slice A'13 n'13 c'13, .bool x13] 26))
      replace x3_0 : Blk (w13.alloc (.cells #[.bool b13, .slice A13 n13 c13, .slice A'13 n'13 c'13, .bool x13] 26)) (w2.heap.size) 26 #[.bool b, .slice A n c, .slice D m e, .bool x, .bool b', .slice A' n' c', .slice D' m' e', .bool x', .bool b2, .slice A2 n2 c2, .slice D2 m2 e2, .bool x2] := (x3_0.alloc (.cells #[.bool b13, .slice A13 n13 c13, .slice A'13 n'13 c'13, .bool x13] 26))
      replace x5_0 : Blk (w13.alloc (.cells #[.bool b13, .slice A13 n13 c13, .slice A'13 n'13 c'13, .bool x13] 26)) (w4.heap.size) 26 #[.bool b4, .slice A4 n4 c4, .slice A'4 n'4 c'4, .bool x4] := (x5_0.alloc (.cells #[.bool b13, .slice A13 n13 c13, .slice A'13 n'13 c'13, .bool x13] 26))
      replace x6_0 : Blk (w13.alloc (.cells #[.bool b13, .slice A13 n13 c13, .slice A'13 n'13 c'13, .bool x13] 26)) (w5.heap.size) 26 #[.bool b5, .slice A5 n5 c5, .slice A'5 n'5 c'5, .bool x5] := (x6_0.alloc (.cells #[.bool b13, .slice A13 n13 c13, .slice A'13 n'13 c'13, .bool x13] 26))
      replace x7_0 : Blk (w13.alloc (.cells #[.bool b13, .slice A13 n13 c13, .slice A'13 n'13 c'13, .bool x13] 26)) (w6.heap.size) 26 #[.bool b6, .slice A6 n6 c6, .slice A'6 n'6 c'6, .bool x6] := (x7_0.alloc (.cells #[.bool b13, .slice A13 n13 c13, .slice A'13 n'13 c'13, .bool x13] 26))
      replace x8_0 : Blk (w13.alloc (.cells #[.bool b13, .slice A13 n13 c13, .slice A'13 n'13 c'13, .bool x13] 26)) (w7.heap.size) 26 #[.bool b7, .slice A7 n7 c7, .slice A'7 n'7 c'7, .bool x7] := (x8_0.alloc (.cells #[.bool b13, .slice A13 n13 c13, .slice A'13 n'13 c'13, .bool x13] 26))
      replace x9_0 : Blk (w13.alloc (.cells #[.bool b13, .slice A13 n13 c13, .slice A'13 n'13 c'13, .bool x13] 26)) (w8.heap.size) 26 #[.bool b8, .slice A8 n8 c8, .slice A'8 n'8 c'8, .bool x8] := (x9_0.alloc (.cells #[.bool b13, .slice A13 n13 c13, .slice A'13 n'13 c'13, .bool x13] 26))
      replace x10_0 : Blk (w13.alloc (.cells #[.bool b13, .slice A13 n13 c13, .slice A'13 n'13 c'13, .bool x13] 26)) (w9.heap.size) 26 #[.bool b9, .slice A9 n9 c9, .slice A'9 n'9 c'9, .bool x9] := (x10_0.alloc (.cells #[.bool b13, .slice A13 n13 c13, .slice A'13 n'13 c'13, .bool x13] 26))
      replace x11_0 : Blk (w13.alloc (.cells #[.bool b13, .slice A13 n13 c13, .slice A'13 n'13 c'13, .bool x13] 26)) (w10.heap.size) 26 #[.bool b10, .slice A10 n10 c10, .slice A'10 n'10 c'10, .bool x10] := (x11_0.alloc (.cells #[.bool b13, .slice A13 n13 c13, .slice A'13 n'13 c'13, .bool x13] 26))
      replace x12_0 : Blk (w13.alloc (.cells #[.bool b13, .slice A13 n13 c13, .slice A'13 n'13 c'13, .bool x13] 26)) (w11.heap.size) 24 #[.bool b11, .slice A11 n11 c11, .slice A'11 n'11 c'11] := (x12_0.alloc (.cells #[.bool b13, .slice A13 n13 c13, .slice A'13 n'13 c'13, .bool x13] 26))
      replace x13_0 : Blk (w13.alloc (.cells #[.bool b13, .slice A13 n13 c13, .slice A'13 n'13 c'13, .bool x13] 26)) (w12.heap.size) 24 #[.bool b12, .slice A12 n12 c12, .slice A'12 n'12 c'12] := (x13_0.alloc (.cells #[.bool b13, .slice A13 n13 c13, .slice A'13 n'13 c'13, .bool x13] 26))
      have lw14 : w13.heap.size + 1 ≤ (w13.alloc (.cells #[.bool b13, .slice A13 n13 c13, .slice A'13 n'13 c'13, .bool x13] 26)).heap.size := by simp
      generalize hE14 : (w13.alloc (.cells #[.bool b13, .slice A13 n13 c13, .slice A'13 n'13 c'13, .bool x13] 26)) = w14 at p14 bw14 lw14 x14_0 x1_0 x1_1 x1_2 x2_0 x3_0 x5_0 x6_0 x7_0 x8_0 x9_0 x10_0 x11_0 x12_0 x13_0 ⊢
      clear hE14
      replace hTa := hTa.keep p14
      replace hTb := hTb.keep p14
      replace hTc := hTc.keep p14
      replace h4 := h4.keep p14
      replace h5 := h5.keep p14
      replace h6 := h6.keep p14
      replace h7 := h7.keep p14
      replace h8 := h8.keep p14
      replace h9 := h9.keep p14
      replace h10 := h10.keep p14
      replace h11 := h11.keep p14
      replace h12 := h12.keep p14
      replace h13 := h13.keep p14
      clear bw13
      have cx12_0_0 : w14.cell? ⟨w11.heap.size, 0, none⟩ = some (.bool b11) := x12_0.cell 0
      have cx12_0_1 : w14.cell? ⟨w11.heap.size, 1, none⟩ = some (.slice A11 n11 c11) := x12_0.cell 1
      have cx12_0_2 : w14.cell? ⟨w11.heap.size, 2, none⟩ = some (.slice A'11 n'11 c'11) := x12_0.cell 2
      have lx12_0_0 : w11.heap.size < w14.heap.size := by have := x12_0.lt; omega
      have lx12_0_1 : w11.heap.size < w14.heap.size + 1 := by have := x12_0.lt; omega
      have lx12_0_2 : w11.heap.size < w14.heap.size + 2 := by have := x12_0.lt; omega
      have lx12_0_3 : w11.heap.size < w14.heap.size + 3 := by have := x12_0.lt; omega
      have cx13_0_0 : w14.cell? ⟨w12.heap.size, 0, none⟩ = some (.bool b12) := x13_0.cell 0
      have cx13_0_1 : w14.cell? ⟨w12.heap.size, 1, none⟩ = some (.slice A12 n12 c12) := x13_0.cell 1
      have cx13_0_2 : w14.cell? ⟨w12.heap.size, 2, none⟩ = some (.slice A'12 n'12 c'12) := x13_0.cell 2
      have lx13_0_0 : w12.heap.size < w14.heap.size := by have := x13_0.lt; omega
      have lx13_0_1 : w12.heap.size < w14.heap.size + 1 := by have := x13_0.lt; omega
      have lx13_0_2 : w12.heap.size < w14.heap.size + 2 := by have := x13_0.lt; omega
      have lx13_0_3 : w12.heap.size < w14.heap.size + 3 := by have := x13_0.lt; omega
      refine wp_region_lin (B := w.heap.size) (fr := fun xf => ⟨List.toArray (.agg #[.bool b, .slice A n c, .slice D m e, .bool x] :: .agg #[.bool b', .slice A' n' c', .slice D' m' e', .bool x'] :: .agg #[.bool b2, .slice A2 n2 c2, .slice D2 m2 e2, .bool x2] :: .pointer (some ⟨w.heap.size, 0, none⟩) :: .pointer (some ⟨w.heap.size + 1, 0, none⟩) :: .pointer (some ⟨w.heap.size + 1 + 1, 0, none⟩) :: .bool false :: .pointer (some ⟨w4.heap.size, 0, none⟩) :: .nilIface :: .pointer (some ⟨w5.heap.size, 0, none⟩) :: .nilIface :: .pointer (some ⟨w6.heap.size, 0, none⟩) :: .nilIface :: .pointer (some ⟨w7.heap.size, 0, none⟩) :: .nilIface :: .pointer (some ⟨w8.heap.size, 0, none⟩) :: .nilIface :: .pointer (some ⟨w9.heap.size, 0, none⟩) :: .nilIface :: .pointer (some ⟨w10.heap.size, 0, none⟩) :: .nilIface :: .pointer (some ⟨w11.heap.size, 0, none⟩) :: .nilIface :: .pointer (some ⟨w12.heap.size, 0, none⟩) :: .nilIface :: .pointer (some ⟨w13.heap.size, 0, none⟩) :: .nilIface :: xf 7 :: .bool true :: .bool false :: .bool false :: .pointer (some ⟨w.heap.size, 0, none⟩) :: .agg #[.bool b, .slice A n c, .slice D m e] :: .pointer (some ⟨w.heap.size + 1, 0, none⟩) :: .agg #[.bool b', .slice A' n' c', .slice D' m' e'] :: .pointer (some ⟨w.heap.size + 1 + 1, 0, none⟩) :: .agg #[.bool b2, .slice A2 n2 c2, .slice D2 m2 e2] :: .slice (some ⟨w1.heap.size, 0, none⟩) 3 3 :: .bool true :: .bool false :: .bool false :: .bool false :: .agg #[.bool b, .slice A n c, .slice D m e, .bool x] :: .agg #[.bool b', .slice A' n' c', .slice D' m' e', .bool x'] :: .agg #[.bool b2, .slice A2 n2 c2, .slice D2 m2 e2, .bool x2] :: .slice (some ⟨w2.heap.size, 0, none⟩) 3 3 :: .bool true :: .bool false :: .bool false :: undef :: .tuple #[.agg #[.bool b4, .slice A4 n4 c4, .slice A'4 n'4 c'4, .bool x4], .nilIface] :: .agg #[.bool b, .slice A n c, .slice D m e, .bool x] :: .agg #[.bool b', .slice A' n' c', .slice D' m' e', .bool x'] :: .tuple #[.agg #[.bool b4, .slice A4 n4 c4, .slice A'4 n'4 c'4, .bool x4], .nilIface] :: .agg #[.bool b4, .slice A4 n4 c4, .slice A'4 n'4 c'4, .bool x4] :: .nilIface :: .tuple #[.agg #[.bool b5, .slice A5 n5 c5, .slice A'5 n'5 c'5, .bool x5], .nilIface] :: .agg #[.bool b', .slice A' n' c', .slice D' m' e', .bool x'] :: .agg #[.bool b, .slice A n c, .slice D m e, .bool x] :: .tuple #[.agg #[.bool b5, .slice A5 n5 c5, .slice A'5 n'5 c'5, .bool x5], .nilIface] :: .agg #[.bool b5, .slice A5 n5 c5, .slice A'5 n'5 c'5, .bool x5] :: .nilIface :: .tuple #[.agg #[.bool b6, .slice A6 n6 c6, .slice A'6 n'6 c'6, .bool x6], .nilIface] :: .agg #[.bool b4, .slice A4 n4 c4, .slice A'4 n'4 c'4, .bool x4] :: .agg #[.bool b2, .slice A2 n2 c2, .slice D2 m2 e2, .bool x2] :: .tuple #[.agg #[.bool b6, .slice A6 n6 c6, .slice A'6 n'6 c'6, .bool x6], .nilIface] :: .agg #[.bool b6, .slice A6 n6 c6, .slice A'6 n'6 c'6, .bool x6] :: .nilIface :: .tuple #[.agg #[.bool b7, .slice A7 n7 c7, .slice A'7 n'7 c'7, .bool x7], .nilIface] :: .agg #[.bool b', .slice A' n' c', .slice D' m' e', .bool x'] :: .agg #[.bool b2, .slice A2 n2 c2, .slice D2 m2 e2, .bool x2] :: .tuple #[.agg #[.bool b7, .slice A7 n7 c7, .slice A'7 n'7 c'7, .bool x7], .nilIface] :: .agg #[.bool b7, .slice A7 n7 c7, .slice A'7 n'7 c'7, .bool x7] :: .nilIface :: .tuple #[.agg #[.bool b8, .slice A8 n8 c8, .slice A'8 n'8 c'8, .bool x8], .nilIface] :: .agg #[.bool b, .slice A n c, .slice D m e, .bool x] :: .agg #[.bool b7, .slice A7 n7 c7, .slice A'7 n'7 c'7, .bool x7] :: .tuple #[.agg #[.bool b8, .slice A8 n8 c8, .slice A'8 n'8 c'8, .bool x8], .nilIface] :: .agg #[.bool b8, .slice A8 n8 c8, .slice A'8 n'8 c'8, .bool x8] :: .nilIface :: .tuple #[.agg #[.bool b9, .slice A9 n9 c9, .slice A'9 n'9 c'9, .bool x9], .nilIface] :: .agg #[.bool b, .slice A n c, .slice D m e, .bool x] :: .tuple #[.agg #[.bool b9, .slice A9 n9 c9, .slice A'9 n'9 c'9, .bool x9], .nilIface] :: .agg #[.bool b9, .slice A9 n9 c9, .slice A'9 n'9 c'9, .bool x9] :: .nilIface :: .tuple #[.agg #[.bool b10, .slice A10 n10 c10, .slice A'10 n'10 c'10, .bool x10], .nilIface] :: .agg #[.bool b, .slice A n c, .slice D m e, .bool x] :: .agg #[.bool b9, .slice A9 n9 c9, .slice A'9 n'9 c'9, .bool x9] :: .tuple #[.agg #[.bool b10, .slice A10 n10 c10, .slice A'10 n'10 c'10, .bool x10], .nilIface] :: .agg #[.bool b10, .slice A10 n10 c10, .slice A'10 n'10 c'10, .bool x10] :: .nilIface :: .tuple #[.agg #[.bool b11, .slice A11 n11 c11, .slice A'11 n'11 c'11], .nilIface] :: .agg #[.bool b, .slice A n c, .slice D m e, .bool x] :: .tuple #[.agg #[.bool b11, .slice A11 n11 c11, .slice A'11 n'11 c'11], .nilIface] :: .agg #[.bool b11, .slice A11 n11 c11, .slice A'11 n'11 c'11] :: .nilIface :: .tuple #[.agg #[.bool b12, .slice A12 n12 c12, .slice A'12 n'12 c'12], .nilIface] :: .agg #[.bool b, .slice A n c, .slice D m e, .bool x] :: .tuple #[.agg #[.bool b12, .slice A12 n12 c12, .slice A'12 n'12 c'12], .nilIface] :: .agg #[.bool b12, .slice A12 n12 c12, .slice A'12 n'12 c'12] :: .nilIface :: .nilIface :: .bool false :: .bool false :: .nilIface :: .bool false :: .bool false :: .bool false :: .nilIface :: .bool false :: .bool false :: .bool false :: .nilIface :: .bool false :: .bool false :: .bool false :: .nilIface :: .bool false :: .bool false :: .bool false :: .nilIface :: .bool false :: .bool false :: .bool false :: .nilIface :: .bool false :: .bool false :: .bool false :: .nilIface :: .bool false :: .bool false :: .bool false :: .nilIface :: .bool false :: .bool false :: .tuple #[.agg #[.bool b13, .slice A13 n13 c13, .slice A'13 n'13 c'13, .bool x13], .nilIface] :: .agg #[.bool b11, .slice A11 n11 c11, .slice A'11 n'11 c'11] :: .agg #[.bool b12, .slice A12 n12 c12, .slice A'12 n'12 c'12] :: .tuple #[.agg #[.bool b13, .slice A13 n13 c13, .slice A'13 n'13 c'13, .bool x13], .nilIface] :: .agg #[.bool b13, .slice A13 n13 c13, .slice A'13 n'13 c'13, .bool x13] :: .nilIface :: xf 0 :: xf 1 :: xf 2 :: xf 3 :: xf 4 :: xf 5 :: xf 6 :: undef :: undef :: undef :: undef :: undef :: undef :: undef :: undef :: undef :: undef :: undef :: undef :: undef :: undef :: undef :: undef :: undef :: undef :: undef :: undef :: undef :: undef :: undef :: undef :: undef :: undef :: undef :: undef :: []), []⟩) (R := fun i => List.getD ((PEq (.agg #[.bool b11, .slice A11 n11 c11, .slice A'11 n'11 c'11])) :: (PEq (.agg #[.bool b11, .slice A11 n11 c11, .slice A'11 n'11 c'11])) :: (VQ ((tcos (⟨ra.q, x⟩)) * (tcos (⟨ra.q, x⟩))) ((4 * (6) + 4) + (4 * (6) + 4))) :: (PEq (.agg #[.bool b12, .slice A12 n12 c12, .slice A'12 n'12 c'12])) :: (PEq (.agg #[.bool b12, .slice A12 n12 c12, .slice A'12 n'12 c'12])) :: (VQ ((tsin (⟨ra.q, x⟩)) * (tsin (⟨ra.q, x⟩))) ((4 * (6) + 4) + (4 * (6) + 4))) :: (VQ (((tcos (⟨ra.q, x⟩)) * (tcos (⟨ra.q, x⟩))) + ((tsin (⟨ra.q, x⟩)) * (tsin (⟨ra.q, x⟩)))) (((4 * (6) + 4) + (4 * (6) + 4)) + ((4 * (6) + 4) + (4 * (6) + 4)) + 1)) :: PAny :: PAny :: []) i (fun _ _ => True)) (es := [⟨7, 8, 24, #[.bool false, .slice none 0 0, .slice none 0 0], CQ (((tcos (⟨ra.q, x⟩)) * (tcos (⟨ra.q, x⟩))) + ((tsin (⟨ra.q, x⟩)) * (tsin (⟨ra.q, x⟩)))) (((4 * (6) + 4) + (4 * (6) + 4)) + ((4 * (6) + 4) + (4 * (6) + 4)) + 1)⟩]) (ow := [⟨w.heap.size, 9, 0, 26, #[.bool b, .slice A n c, .slice D m e, .bool x], CAny⟩, ⟨w.heap.size + 1, 9, 0, 26, #[.bool b', .slice A' n' c', .slice D' m' e', .bool x'], CAny⟩, ⟨w.heap.size + 1 + 1, 9, 0, 26, #[.bool b2, .slice A2 n2 c2, .slice D2 m2 e2, .bool x2], CAny⟩, ⟨w1.heap.size, 9, 0, 24, #[.bool b, .slice A n c, .slice D m e, .bool b', .slice A' n' c', .slice D' m' e', .bool b2, .slice A2 n2 c2, .slice D2 m2 e2], CAny⟩, ⟨w2.heap.size, 9, 0, 26, #[.bool b, .slice A n c, .slice D m e, .bool x, .bool b', .slice A' n' c', .slice D' m' e', .bool x', .bool b2, .slice A2 n2 c2, .slice D2 m2 e2, .bool x2], CAny⟩, ⟨w4.heap.size, 9, 0, 26, #[.bool b4, .slice A4 n4 c4, .slice A'4 n'4 c'4, .bool x4], CAny⟩, ⟨w5.heap.size, 9, 0, 26, #[.bool b5, .slice A5 n5 c5, .slice A'5 n'5 c'5, .bool x5], CAny⟩, ⟨w6.heap.size, 9, 0, 26, #[.bool b6, .slice A6 n6 c6, .slice A'6 n'6 c'6, .bool x6], CAny⟩, ⟨w7.heap.size, 9, 0, 26, #[.bool b7, .slice A7 n7 c7, .slice A'7 n'7 c'7, .bool x7], CAny⟩, ⟨w8.heap.size, 9, 0, 26, #[.bool b8, .slice A8 n8 c8, .slice A'8 n'8 c'8, .bool x8], CAny⟩, ⟨w9.heap.size, 9, 0, 26, #[.bool b9, .slice A9 n9 c9, .slice A'9 n'9 c'9, .bool x9], CAny⟩, ⟨w10.heap.size, 9, 0, 26, #[.bool b10, .slice A10 n10 c10, .slice A'10 n'10 c'10, .bool x10], CAny⟩, ⟨w11.heap.size, 9, 0, 24, #[.bool b11, .slice A11 n11 c11, .slice A'11 n'11 c'11], CAny⟩, ⟨w12.heap.size, 9, 0, 24, #[.bool b12, .slice A12 n12 c12, .slice A'12 n'12 c'12], CAny⟩, ⟨w13.heap.size, 9, 0, 26, #[.bool b13, .slice A13 n13 c13, .slice A'13 n'13 c'13, .bool x13], CAny⟩]) (x0 := (fun _ => undef)) (by kernel_rfl)
        (each_of ⟨fun _ _ => rfl, fun _ _ => rfl, fun _ _ => rfl, fun _ _ => rfl, fun _ _ => rfl, fun _ _ => rfl, fun _ _ => rfl, fun _ _ => rfl, fun _ _ => rfl, trivial⟩) (each_of (acyc_from _ 0 (by kernel_rfl))) (AllStab.get _ ⟨stEq _, stEq _, stQ _ _, stEq _, stEq _, stQ _ _, stQ _ _, stAny, stAny, trivial⟩)
        (List.forall_mem_cons.2 ⟨scQ _ _, fun _ h => nomatch h⟩) (List.forall_mem_cons.2 ⟨scAny, List.forall_mem_cons.2 ⟨scAny, List.forall_mem_cons.2 ⟨scAny, List.forall_mem_cons.2 ⟨scAny, List.forall_mem_cons.2 ⟨scAny, List.forall_mem_cons.2 ⟨scAny, List.forall_mem_cons.2 ⟨scAny, List.forall_mem_cons.2 ⟨scAny, List.forall_mem_cons.2 ⟨scAny, List.forall_mem_cons.2 ⟨scAny, List.forall_mem_cons.2 ⟨scAny, List.forall_mem_cons.2 ⟨scAny, List.forall_mem_cons.2 ⟨scAny, List.forall_mem_cons.2 ⟨scAny, List.forall_mem_cons.2 ⟨scAny, fun _ h => nomatch h⟩⟩⟩⟩⟩⟩⟩⟩⟩⟩⟩⟩⟩⟩⟩) (List.forall_mem_cons.2 ⟨⟨by simp, by simp⟩, fun _ h => nomatch h⟩) bw14.size
        (List.forall_mem_cons.2 ⟨⟨x1_0, by show w.heap.size ≤ w.heap.size; omega⟩, List.forall_mem_cons.2 ⟨⟨x1_1, by show w.heap.size ≤ w.heap.size + 1; omega⟩, List.forall_mem_cons.2 ⟨⟨x1_2, by show w.heap.size ≤ w.heap.size + 1 + 1; omega⟩, List.forall_mem_cons.2 ⟨⟨x2_0, by show w.heap.size ≤ w1.heap.size; omega⟩, List.forall_mem_cons.2 ⟨⟨x3_0, by show w.heap.size ≤ w2.heap.size; omega⟩, List.forall_mem_cons.2 ⟨⟨x5_0, by show w.heap.size ≤ w4.heap.size; omega⟩, List.forall_mem_cons.2 ⟨⟨x6_0, by show w.heap.size ≤ w5.heap.size; omega⟩, List.forall_mem_cons.2 ⟨⟨x7_0, by show w.heap.size ≤ w6.heap.size; omega⟩, List.forall_mem_cons.2 ⟨⟨x8_0, by show w.heap.size ≤ w7.heap.size; omega⟩, List.forall_mem_cons.2 ⟨⟨x9_0, by show w.heap.size ≤ w8.heap.size; omega⟩, List.forall_mem_cons.2 ⟨⟨x10_0, by show w.heap.size ≤ w9.heap.size; omega⟩, List.forall_mem_cons.2 ⟨⟨x11_0, by show w.heap.size ≤ w10.heap.size; omega⟩, List.forall_mem_cons.2 ⟨⟨x12_0, by show w.heap.size ≤ w11.heap.size; omega⟩, List.forall_mem_cons.2 ⟨⟨x13_0, by show w.heap.size ≤ w12.heap.size; omega⟩, List.forall_mem_cons.2 ⟨⟨x14_0, by show w.heap.size ≤ w13.heap.size; omega⟩, fun _ h => nomatch h⟩⟩⟩⟩⟩⟩⟩⟩⟩⟩⟩⟩⟩⟩⟩) (ownDist (by simp <;> omega))
        (each_of ⟨?_, ?_, ?_, ?_, ?_, ?_, ?_, ?_, ?_, trivial⟩) ?_
      · exact .inl ⟨by simp, by simp, fun xf wq hk hbl hd K hK => by
          have y : Blk wq (w11.heap.size) 24 #[.bool b11, .slice A11 n11 c11, .slice A'11 n'11 c'11] := hbl _ (List.Mem.tail _ (List.Mem.tail _ (List.Mem.tail _ (List.Mem.tail _ (List.Mem.tail _ (List.Mem.tail _ (List.Mem.tail _ (List.Mem.tail _ (List.Mem.tail _ (List.Mem.tail _ (List.Mem.tail _ (List.Mem.tail _ (List.Mem.head _))))))))))))) (by simp [Region.binds])
          have hcl0 : wq.cell? ⟨w11.heap.size, 0, none⟩ = some (.bool b11) := y.cell 0
          have hcl1 : wq.cell? ⟨w11.heap.size, 1, none⟩ = some (.slice A11 n11 c11) := y.cell 1
          have hcl2 : wq.cell? ⟨w11.heap.size, 2, none⟩ = some (.slice A'11 n'11 c'11) := y.cell 2
          (try dsimp only)
          go_simp
          exact hK.out (.agg #[.bool b11, .slice A11 n11 c11, .slice A'11 n'11 c'11]) _ rfl (brefl _)⟩
      · exact .inl ⟨by simp, by simp, fun xf wq hk hbl hd K hK => by
          have y : Blk wq (w11.heap.size) 24 #[.bool b11, .slice A11 n11 c11, .slice A'11 n'11 c'11] := hbl _ (List.Mem.tail _ (List.Mem.tail _ (List.Mem.tail _ (List.Mem.tail _ (List.Mem.tail _ (List.Mem.tail _ (List.Mem.tail _ (List.Mem.tail _ (List.Mem.tail _ (List.Mem.tail _ (List.Mem.tail _ (List.Mem.tail _ (List.Mem.head _))))))))))))) (by simp [Region.binds])
          have hcl0 : wq.cell? ⟨w11.heap.size, 0, none⟩ = some (.bool b11) := y.cell 0
          have hcl1 : wq.cell? ⟨w11.heap.size, 1, none⟩ = some (.slice A11 n11 c11) := y.cell 1
          have hcl2 : wq.cell? ⟨w11.heap.size, 2, none⟩ = some (.slice A'11 n'11 c'11) := y.cell 2
          (try dsimp only)
          go_simp
          exact hK.out (.agg #[.bool b11, .slice A11 n11 c11, .slice A'11 n'11 c'11]) _ rfl (brefl _)⟩
      · exact .inl ⟨by simp, by simp, fun xf wq hk hbl hd K hK => by
          have dq0 : xf 0 = .agg #[.bool b11, .slice A11 n11 c11, .slice A'11 n'11 c'11] := hd ⟨0, .data⟩ (by simp) rfl
          have dq1 : xf 1 = .agg #[.bool b11, .slice A11 n11 c11, .slice A'11 n'11 c'11] := hd ⟨1, .data⟩ (by simp) rfl
          (try dsimp only); (try simp only [dq0, dq1])
          go_simp
          go_at_call 12
          (with_reducible refine (f_mul _ b11 A11 n11 c11 A'11 n'11 c'11 (tcos (⟨ra.q, x⟩)) (4 * (6) + 4) ?_ b11 A11 n11 c11 A'11 n'11 c'11 (tcos (⟨ra.q, x⟩)) (4 * (6) + 4) ?_ ?_ ?_ ?_ ?_).mono ?_); (exact (h11.keep hk).qz); (exact (h11.keep hk).qz); (first | omega | decide | assumption); (first | omega | decide | assumption); (first | omega | decide | assumption); (first | omega | decide | assumption); rintro e wr ⟨b16, A16, n16, c16, A'16, n'16, c'16, rfl, h16, hbr⟩
          have hz := hK.out _ _ ⟨b16, A16, n16, c16, A'16, n'16, c'16, rfl, h16⟩ hbr
          simp only [dq0, dq1] at hz
          exact hz⟩
      · exact .inl ⟨by simp, by simp, fun xf wq hk hbl hd K hK => by
          have y : Blk wq (w12.heap.size) 24 #[.bool b12, .slice A12 n12 c12, .slice A'12 n'12 c'12] := hbl _ (List.Mem.tail _ (List.Mem.tail _ (List.Mem.tail _ (List.Mem.tail _ (List.Mem.tail _ (List.Mem.tail _ (List.Mem.tail _ (List.Mem.tail _ (List.Mem.tail _ (List.Mem.tail _ (List.Mem.tail _ (List.Mem.tail _ (List.Mem.tail _ (List.Mem.head _)))))))))))))) (by simp [Region.binds])
          have hcl0 : wq.cell? ⟨w12.heap.size, 0, none⟩ = some (.bool b12) := y.cell 0
          have hcl1 : wq.cell? ⟨w12.heap.size, 1, none⟩ = some (.slice A12 n12 c12) := y.cell 1
          have hcl2 : wq.cell? ⟨w12.heap.size, 2, none⟩ = some (.slice A'12 n'12 c'12) := y.cell 2
          (try dsimp only)
          go_simp
          exact hK.out (.agg #[.bool b12, .slice A12 n12 c12, .slice A'12 n'12 c'12]) _ rfl (brefl _)⟩
      · exact .inl ⟨by simp, by simp, fun xf wq hk hbl hd K hK => by
          have y : Blk wq (w12.heap.size) 24 #[.bool b12, .slice A12 n12 c12, .slice A'12 n'12 c'12] := hbl _ (List.Mem.tail _ (List.Mem.tail _ (List.Mem.tail _ (List.Mem.tail _ (List.Mem.tail _ (List.Mem.tail _ (List.Mem.tail _ (List.Mem.tail _ (List.Mem.tail _ (List.Mem.tail _ (List.Mem.tail _ (List.Mem.tail _ (List.Mem.tail _ (List.Mem.head _)))))))))))))) (by simp [Region.binds])
          have hcl0 : wq.cell? ⟨w12.heap.size, 0, none⟩ = some (.bool b12) := y.cell 0
          have hcl1 : wq.cell? ⟨w12.heap.size, 1, none⟩ = some (.slice A12 n12 c12) := y.cell 1
          have hcl2 : wq.cell? ⟨w12.heap.size, 2, none⟩ = some (.slice A'12 n'12 c'12) := y.cell 2
          (try dsimp only)
          go_simp
          exact hK.out (.agg #[.bool b12, .slice A12 n12 c12, .slice A'12 n'12 c'12]) _ rfl (brefl _)⟩
      · exact .inl ⟨by simp, by simp, fun xf wq hk hbl hd K hK => by
          have dq3 : xf 3 = .agg #[.bool b12, .slice A12 n12 c12, .slice A'12 n'12 c'12] := hd ⟨3, .data⟩ (by simp) rfl
          have dq4 : xf 4 = .agg #[.bool b12, .slice A12 n12 c12, .slice A'12 n'12 c'12] := hd ⟨4, .data⟩ (by simp) rfl
          (try dsimp only); (try simp only [dq3, dq4])
          go_simp
          go_at_call 12
          (with_reducible refine (f_mul _ b12 A12 n12 c12 A'12 n'12 c'12 (tsin (⟨ra.q, x⟩)) (4 * (6) + 4) ?_ b12 A12 n12 c12 A'12 n'12 c'12 (tsin (⟨ra.q, x⟩)) (4 * (6) + 4) ?_ ?_ ?_ ?_ ?_).mono ?_); (exact (h12.keep hk).qz); (exact (h12.keep hk).qz); (first | omega | decide | assumption); (first | omega | decide | assumption); (first | omega | decide | assumption); (first | omega | decide | assumption); rintro e wr ⟨b17, A17, n17, c17, A'17, n'17, c'17, rfl, h17, hbr⟩
          have hz := hK.out _ _ ⟨b17, A17, n17, c17, A'17, n'17, c'17, rfl, h17⟩ hbr
          simp only [dq3, dq4] at hz
          exact hz⟩
      · exact .inl ⟨by simp, by simp, fun xf wq hk hbl hd K hK => by
          obtain ⟨b16, A16, n16, c16, A'16, n'16, c'16, dq2, h16⟩ : VQ ((tcos (⟨ra.q, x⟩)) * (tcos (⟨ra.q, x⟩))) ((4 * (6) + 4) + (4 * (6) + 4)) (xf 2) wq := hd ⟨2, .data⟩ (by simp) rfl
          obtain ⟨b17, A17, n17, c17, A'17, n'17, c'17, dq5, h17⟩ : VQ ((tsin (⟨ra.q, x⟩)) * (tsin (⟨ra.q, x⟩))) ((4 * (6) + 4) + (4 * (6) + 4)) (xf 5) wq := hd ⟨5, .data⟩ (by simp) rfl
          (try dsimp only); (try simp only [dq2, dq5])
          go_simp
          go_at_call 11
          (with_reducible refine (f_add _ b16 A16 n16 c16 A'16 n'16 c'16 ((tcos (⟨ra.q, x⟩)) * (tcos (⟨ra.q, x⟩))) ((4 * (6) + 4) + (4 * (6) + 4)) ?_ b17 A17 n17 c17 A'17 n'17 c'17 ((tsin (⟨ra.q, x⟩)) * (tsin (⟨ra.q, x⟩))) ((4 * (6) + 4) + (4 * (6) + 4)) ?_ ?_ ?_ ?_ ?_).mono ?_); (exact h16.qz); (exact h17.qz); (first | omega | decide | assumption); (first | omega | decide | assumption); (first | omega | decide | assumption); (first | omega | decide | assumption); rintro e wr ⟨b18, A18, n18, c18, A'18, n'18, c'18, rfl, h18, hbr⟩
          have hz := hK.out _ _ ⟨b18, A18, n18, c18, A'18, n'18, c'18, rfl, h18⟩ hbr
          simp only [dq2, dq5] at hz
          exact hz⟩
      · exact .inr (.inl ⟨⟨7, 8, 24, #[.bool false, .slice none 0 0, .slice none 0 0], CQ (((tcos (⟨ra.q, x⟩)) * (tcos (⟨ra.q, x⟩))) + ((tsin (⟨ra.q, x⟩)) * (tsin (⟨ra.q, x⟩)))) (((4 * (6) + 4) + (4 * (6) + 4)) + ((4 * (6) + 4) + (4 * (6) + 4)) + 1)⟩, by simp, rfl, by simp, by simp, by simp, fun _ _ => True.intro, fun xf wq K hK => by
          (try dsimp only)
          go_simp
          exact hK.out⟩)
      · exact .inr (.inr (.inl ⟨⟨7, 8, 24, #[.bool false, .slice none 0 0, .slice none 0 0], CQ (((tcos (⟨ra.q, x⟩)) * (tcos (⟨ra.q, x⟩))) + ((tsin (⟨ra.q, x⟩)) * (tsin (⟨ra.q, x⟩)))) (((4 * (6) + 4) + (4 * (6) + 4)) + ((4 * (6) + 4) + (4 * (6) + 4)) + 1)⟩, by simp, rfl, by simp, by simp, by simp, by simp, (show KT 24 = false by decide), fun _ _ => True.intro, ⟨⟨7, .data⟩, by simp, rfl, rfl⟩, fun xf wq g hx hblk hd => by
          obtain ⟨b18, A18, n18, c18, A'18, n'18, c'18, dq6, h18⟩ : VQ (((tcos (⟨ra.q, x⟩)) * (tcos (⟨ra.q, x⟩))) + ((tsin (⟨ra.q, x⟩)) * (tsin (⟨ra.q, x⟩)))) (((4 * (6) + 4) + (4 * (6) + 4)) + ((4 * (6) + 4) + (4 * (6) + 4)) + 1) (xf 6) wq := hd ⟨6, .data⟩ (by simp) rfl
          dsimp only at hx hblk
          refine ⟨[.bool b18, .slice A18 n18 c18, .slice A'18 n'18 c'18], fun w' hk => ⟨b18, A18, n18, c18, A'18, n'18, c'18, rfl, h18.keep hk⟩, fun K hK => ?_⟩
          have hc0 : wq.cell? ⟨g, 0, none⟩ = some (.bool false) := hblk.cell 0
          have hc1 : wq.cell? ⟨g, 1, none⟩ = some (.slice none 0 0) := hblk.cell 1
          have hc2 : wq.cell? ⟨g, 2, none⟩ = some (.slice none 0 0) := hblk.cell 2
          have hf0 : wq.frozen? ⟨g, 0, none⟩ = false := hblk.frozen 0
          have hf1 : wq.frozen? ⟨g, 1, none⟩ = false := hblk.frozen 1
          have hf2 : wq.frozen? ⟨g, 2, none⟩ = false := hblk.frozen 2
          (try dsimp only)
          simp only [hx, dq6]
          go_simp
          have hz := hK.out undef
          simp only [hx, dq6] at hz
          exact hz⟩))
      clear cx12_0_0 cx12_0_1 cx12_0_2 lx12_0_0 lx12_0_1 lx12_0_2 lx12_0_3 cx13_0_0 cx13_0_1 cx13_0_2 lx13_0_0 lx13_0_1 lx13_0_2 lx13_0_3
      intro y15 w15 kq15 hbl15 lw15 how hrr hfl hds
      replace hTa := hTa.keep kq15
      replace hTb := hTb.keep kq15
      replace hTc := hTc.keep kq15
      replace h4 := h4.keep kq15
      replace h5 := h5.keep kq15
      replace h6 := h6.keep kq15
      replace h7 := h7.keep kq15
      replace h8 := h8.keep kq15
      replace h9 := h9.keep kq15
      replace h10 := h10.keep kq15
      replace h11 := h11.keep kq15
      replace h12 := h12.keep kq15
      replace h13 := h13.keep kq15
      obtain ⟨_, z15_0, ez, _⟩ := how _ (List.Mem.head _)
      obtain rfl := ez (by simp)
      dsimp only at z15_0
      obtain ⟨_, z15_1, ez, _⟩ := how _ (List.Mem.tail _ (List.Mem.head _))
      obtain rfl := ez (by simp)
      dsimp only at z15_1
      obtain ⟨_, z15_2, ez, _⟩ := how _ (List.Mem.tail _ (List.Mem.tail _ (List.Mem.head _)))
      obtain rfl := ez (by simp)
      dsimp only at z15_2
      obtain ⟨_, z15_3, ez, _⟩ := how _ (List.Mem.tail _ (List.Mem.tail _ (List.Mem.tail _ (List.Mem.head _))))
      obtain rfl := ez (by simp)
      dsimp only at z15_3
      obtain ⟨_, z15_4, ez, _⟩ := how _ (List.Mem.tail _ (List.Mem.tail _ (List.Mem.tail _ (List.Mem.tail _ (List.Mem.head _)))))
      obtain rfl := ez (by simp)
      dsimp only at z15_4
      obtain ⟨_, z15_5, ez, _⟩ := how _ (List.Mem.tail _ (List.Mem.tail _ (List.Mem.tail _ (List.Mem.tail _ (List.Mem.tail _ (List.Mem.head _))))))
      obtain rfl := ez (by simp)
      dsimp only at z15_5
      obtain ⟨_, z15_6, ez, _⟩ := how _ (List.Mem.tail _ (List.Mem.tail _ (List.Mem.tail _ (List.Mem.tail _ (List.Mem.tail _ (List.Mem.tail _ (List.Mem.head _)))))))
      obtain rfl := ez (by simp)
      dsimp only at z15_6
      obtain ⟨_, z15_7, ez, _⟩ := how _ (List.Mem.tail _ (List.Mem.tail _ (List.Mem.tail _ (List.Mem.tail _ (List.Mem.tail _ (List.Mem.tail _ (List.Mem.tail _ (List.Mem.head _))))))))
      obtain rfl := ez (by simp)
      dsimp only at z15_7
      obtain ⟨_, z15_8, ez, _⟩ := how _ (List.Mem.tail _ (List.Mem.tail _ (List.Mem.tail _ (List.Mem.tail _ (List.Mem.tail _ (List.Mem.tail _ (List.Mem.tail _ (List.Mem.tail _ (List.Mem.head _)))))))))
      obtain rfl := ez (by simp)
      dsimp only at z15_8
      obtain ⟨_, z15_9, ez, _⟩ := how _ (List.Mem.tail _ (List.Mem.tail _ (List.Mem.tail _ (List.Mem.tail _ (List.Mem.tail _ (List.Mem.tail _ (List.Mem.tail _ (List.Mem.tail _ (List.Mem.tail _ (List.Mem.head _))))))))))
      obtain rfl := ez (by simp)
      dsimp only at z15_9
      obtain ⟨_, z15_10, ez, _⟩ := how _ (List.Mem.tail _ (List.Mem.tail _ (List.Mem.tail _ (List.Mem.tail _ (List.Mem.tail _ (List.Mem.tail _ (List.Mem.tail _ (List.Mem.tail _ (List.Mem.tail _ (List.Mem.tail _ (List.Mem.head _)))))))))))
      obtain rfl := ez (by simp)
      dsimp only at z15_10
      obtain ⟨_, z15_11, ez, _⟩ := how _ (List.Mem.tail _ (List.Mem.tail _ (List.Mem.tail _ (List.Mem.tail _ (List.Mem.tail _ (List.Mem.tail _ (List.Mem.tail _ (List.Mem.tail _ (List.Mem.tail _ (List.Mem.tail _ (List.Mem.tail _ (List.Mem.head _))))))))))))
      obtain rfl := ez (by simp)
      dsimp only at z15_11
      obtain ⟨_, z15_12, ez, _⟩ := how _ (List.Mem.tail _ (List.Mem.tail _ (List.Mem.tail _ (List.Mem.tail _ (List.Mem.tail _ (List.Mem.tail _ (List.Mem.tail _ (List.Mem.tail _ (List.Mem.tail _ (List.Mem.tail _ (List.Mem.tail _ (List.Mem.tail _ (List.Mem.head _)))))))))))))
      obtain rfl := ez (by simp)
      dsimp only at z15_12
      obtain ⟨_, z15_13, ez, _⟩ := how _ (List.Mem.tail _ (List.Mem.tail _ (List.Mem.tail _ (List.Mem.tail _ (List.Mem.tail _ (List.Mem.tail _ (List.Mem.tail _ (List.Mem.tail _ (List.Mem.tail _ (List.Mem.tail _ (List.Mem.tail _ (List.Mem.tail _ (List.Mem.tail _ (List.Mem.head _))))))))))))))
      obtain rfl := ez (by simp)
      dsimp only at z15_13
      obtain ⟨_, z15_14, ez, _⟩ := how _ (List.Mem.tail _ (List.Mem.tail _ (List.Mem.tail _ (List.Mem.tail _ (List.Mem.tail _ (List.Mem.tail _ (List.Mem.tail _ (List.Mem.tail _ (List.Mem.tail _ (List.Mem.tail _ (List.Mem.tail _ (List.Mem.tail _ (List.Mem.tail _ (List.Mem.tail _ (List.Mem.head _)))))))))))))))
      obtain rfl := ez (by simp)
      dsimp only at z15_14
      obtain ⟨g27_15, _, eg27_15, Gg27_15, xg27_15, ⟨b18, A18, n18, c18, A'18, n'18, c'18, rfl, h18⟩⟩ := hfl _ (List.Mem.head _)
      dsimp only at eg27_15 Gg27_15 xg27_15
      have lgg27_15 : g27_15 < w15.heap.size := xg27_15.lt
      (try dsimp only)
      simp only [eg27_15]
      clear hrr hfl how hds eg27_15
      clear x1_0 x1_1 x1_2 x2_0 x3_0 x5_0 x6_0 x7_0 x8_0 x9_0 x10_0 x11_0 x12_0 x13_0 x14_0
      have bw15 : Below w.heap.size w w15 := bw14.trans hbl15
      clear bw14
      have cz15_0_0 : w15.cell? ⟨w.heap.size, 0, none⟩ = some (.bool b) := z15_0.cell 0
      have cz15_0_1 : w15.cell? ⟨w.heap.size, 1, none⟩ = some (.slice A n c) := z15_0.cell 1
      have cz15_0_2 : w15.cell? ⟨w.heap.size, 2, none⟩ = some (.slice D m e) := z15_0.cell 2
      have cz15_0_3 : w15.cell? ⟨w.heap.size, 3, none⟩ = some (.bool x) := z15_0.cell 3
      have lz15_0_0 : w.heap.size < w15.heap.size := by have := z15_0.lt; omega
      have lz15_0_1 : w.heap.size < w15.heap.size + 1 := by have := z15_0.lt; omega
      have lz15_0_2 : w.heap.size < w15.heap.size + 2 := by have := z15_0.lt; omega
      have lz15_0_3 : w.heap.size < w15.heap.size + 3 := by have := z15_0.lt; omega
      have lz15_1_0 : w.heap.size + 1 < w15.heap.size := by have := z15_1.lt; omega
      have lz15_1_1 : w.heap.size < w15.heap.size := by have := z15_1.lt; omega
      have lz15_1_2 : w.heap.size < w15.heap.size + 1 := by have := z15_1.lt; omega
      have lz15_1_3 : w.heap.size < w15.heap.size + 2 := by have := z15_1.lt; omega
      have lz15_2_0 : w.heap.size + 2 < w15.heap.size := by have := z15_2.lt; omega
      have lz15_2_1 : w.heap.size + 1 < w15.heap.size := by have := z15_2.lt; omega
      have lz15_2_2 : w.heap.size < w15.heap.size := by have := z15_2.lt; omega
      have lz15_2_3 : w.heap.size < w15.heap.size + 1 := by have := z15_2.lt; omega
      have lz15_3_0 : w1.heap.size < w15.heap.size := by have := z15_3.lt; omega
      have lz15_3_1 : w1.heap.size < w15.heap.size + 1 := by have := z15_3.lt; omega
      have lz15_3_2 : w1.heap.size < w15.heap.size + 2 := by have := z15_3.lt; omega
      have lz15_3_3 : w1.heap.size < w15.heap.size + 3 := by have := z15_3.lt; omega
      have lz15_4_0 : w2.heap.size < w15.heap.size := by have := z15_4.lt; omega
      have lz15_4_1 : w2.heap.size < w15.heap.size + 1 := by have := z15_4.lt; omega
      have lz15_4_2 : w2.heap.size < w15.heap.size + 2 := by have := z15_4.lt; omega
      have lz15_4_3 : w2.heap.size < w15.heap.size + 3 := by have := z15_4.lt; omega
      have cz15_5_0 : w15.cell? ⟨w4.heap.size, 0, none⟩ = some (.bool b4) := z15_5.cell 0
      have cz15_5_1 : w15.cell? ⟨w4.heap.size, 1, none⟩ = some (.slice A4 n4 c4) := z15_5.cell 1
      have cz15_5_2 : w15.cell? ⟨w4.heap.size, 2, none⟩ = some (.slice A'4 n'4 c'4) := z15_5.cell 2
      have cz15_5_3 : w15.cell? ⟨w4.heap.size, 3, none⟩ = some (.bool x4) := z15_5.cell 3
      have lz15_5_0 : w4.heap.size < w15.heap.size := by have := z15_5.lt; omega
      have lz15_5_1 : w4.heap.size < w15.heap.size + 1 := by have := z15_5.lt; omega
      have lz15_5_2 : w4.heap.size < w15.heap.size + 2 := by have := z15_5.lt; omega
      have lz15_5_3 : w4.heap.size < w15.heap.size + 3 := by have := z15_5.lt; omega
      have cz15_6_0 : w15.cell? ⟨w5.heap.size, 0, none⟩ = some (.bool b5) := z15_6.cell 0
      have cz15_6_1 : w15.cell? ⟨w5.heap.size, 1, none⟩ = some (.slice A5 n5 c5) := z15_6.cell 1
      have cz15_6_2 : w15.cell? ⟨w5.heap.size, 2, none⟩ = some (.slice A'5 n'5 c'5) := z15_6.cell 2
      have cz15_6_3 : w15.cell? ⟨w5.heap.size, 3, none⟩ = some (.bool x5) := z15_6.cell 3
      have lz15_6_0 : w5.heap.size < w15.heap.size := by have := z15_6.lt; omega
      have lz15_6_1 : w5.heap.size < w15.heap.size + 1 := by have := z15_6.lt; omega
      have lz15_6_2 : w5.heap.size < w15.heap.size + 2 := by have := z15_6.lt; omega
      have lz15_6_3 : w5.heap.size < w15.heap.size + 3 := by have := z15_6.lt; omega
      have cz15_7_0 : w15.cell? ⟨w6.heap.size, 0, none⟩ = some (.bool b6) := z15_7.cell 0
      have cz15_7_1 : w15.cell? ⟨w6.heap.size, 1, none⟩ = some (.slice A6 n6 c6) := z15_7.cell 1
      have cz15_7_2 : w15.cell? ⟨w6.heap.size, 2, none⟩ = some (.slice A'6 n'6 c'6) := z15_7.cell 2
      have cz15_7_3 : w15.cell? ⟨w6.heap.size, 3, none⟩ = some (.bool x6) := z15_7.cell 3
      have lz15_7_0 : w6.heap.size < w15.heap.size := by have := z15_7.lt; omega
      have lz15_7_1 : w6.heap.size < w15.heap.size + 1 := by have := z15_7.lt; omega
      have lz15_7_2 : w6.heap.size < w15.heap.size + 2 := by have := z15_7.lt; omega
      have lz15_7_3 : w6.heap.size < w15.heap.size + 3 := by have := z15_7.lt; omega
      have lz15_8_0 : w7.heap.size < w15.heap.size := by have := z15_8.lt; omega
      have lz15_8_1 : w7.heap.size < w15.heap.size + 1 := by have := z15_8.lt; omega
      have lz15_8_2 : w7.heap.size < w15.heap.size + 2 := by have := z15_8.lt; omega
      have lz15_8_3 : w7.heap.size < w15.heap.size + 3 := by have := z15_8.lt; omega
      have cz15_9_0 : w15.cell? ⟨w8.heap.size, 0, none⟩ = some (.bool b8) := z15_9.cell 0
      have cz15_9_1 : w15.cell? ⟨w8.heap.size, 1, none⟩ = some (.slice A8 n8 c8) := z15_9.cell 1
      have cz15_9_2 : w15.cell? ⟨w8.heap.size, 2, none⟩ = some (.slice A'8 n'8 c'8) := z15_9.cell 2
      have cz15_9_3 : w15.cell? ⟨w8.heap.size, 3, none⟩ = some (.bool x8) := z15_9.cell 3
      have lz15_9_0 : w8.heap.size < w15.heap.size := by have := z15_9.lt; omega
      have lz15_9_1 : w8.heap.size < w15.heap.size + 1 := by have := z15_9.lt; omega
      have lz15_9_2 : w8.heap.size < w15.heap.size + 2 := by have := z15_9.lt; omega
      have lz15_9_3 : w8.heap.size < w15.heap.size + 3 := by have := z15_9.lt; omega
      have lz15_10_0 : w9.heap.size < w15.heap.size := by have := z15_10.lt; omega
      have lz15_10_1 : w9.heap.size < w15.heap.size + 1 := by have := z15_10.lt; omega
      have lz15_10_2 : w9.heap.size < w15.heap.size + 2 := by have := z15_10.lt; omega
      have lz15_10_3 : w9.heap.size < w15.heap.size + 3 := by have := z15_10.lt; omega
      have cz15_11_0 : w15.cell? ⟨w10.heap.size, 0, none⟩ = some (.bool b10) := z15_11.cell 0
      have cz15_11_1 : w15.cell? ⟨w10.heap.size, 1, none⟩ = some (.slice A10 n10 c10) := z15_11.cell 1
      have cz15_11_2 : w15.cell? ⟨w10.heap.size, 2, none⟩ = some (.slice A'10 n'10 c'10) := z15_11.cell 2
      have cz15_11_3 : w15.cell? ⟨w10.heap.size, 3, none⟩ = some (.bool x10) := z15_11.cell 3
      have lz15_11_0 : w10.heap.size < w15.heap.size := by have := z15_11.lt; omega
      have lz15_11_1 : w10.heap.size < w15.heap.size + 1 := by have := z15_11.lt; omega
      have lz15_11_2 : w10.heap.size < w15.heap.size + 2 := by have := z15_11.lt; omega
      have lz15_11_3 : w10.heap.size < w15.heap.size + 3 := by have := z15_11.lt; omega
      have lz15_12_0 : w11.heap.size < w15.heap.size := by have := z15_12.lt; omega
      have lz15_12_1 : w11.heap.size < w15.heap.size + 1 := by have := z15_12.lt; omega
      have lz15_12_2 : w11.heap.size < w15.heap.size + 2 := by have := z15_12.lt; omega
      have lz15_12_3 : w11.heap.size < w15.heap.size + 3 := by have := z15_12.lt; omega
      have lz15_13_0 : w12.heap.size < w15.heap.size := by have := z15_13.lt; omega
      have lz15_13_1 : w12.heap.size < w15.heap.size + 1 := by have := z15_13.lt; omega
      have lz15_13_2 : w12.heap.size < w15.heap.size + 2 := by have := z15_13.lt; omega
      have lz15_13_3 : w12.heap.size < w15.heap.size + 3 := by have := z15_13.lt; omega
      have cz15_14_0 : w15.cell? ⟨w13.heap.size, 0, none⟩ = some (.bool b13) := z15_14.cell 0
      have cz15_14_1 : w15.cell? ⟨w13.heap.size, 1, none⟩ = some (.slice A13 n13 c13) := z15_14.cell 1
      have cz15_14_2 : w15.cell? ⟨w13.heap.size, 2, none⟩ = some (.slice A'13 n'13 c'13) := z15_14.cell 2
      have cz15_14_3 : w15.cell? ⟨w13.heap.size, 3, none⟩ = some (.bool x13) := z15_14.cell 3
      have lz15_14_0 : w13.heap.size < w15.heap.size := by have := z15_14.lt; omega
      have lz15_14_1 : w13.heap.size < w15.heap.size + 1 := by have := z15_14.lt; omega
      have lz15_14_2 : w13.heap.size < w15.heap.size + 2 := by have := z15_14.lt; omega
      have lz15_14_3 : w13.heap.size < w15.heap.size + 3 := by have := z15_14.lt; omega
      have cxg27_15_0 : w15.cell? ⟨g27_15, 0, none⟩ = some (.bool b18) := xg27_15.cell 0
      have cxg27_15_1 : w15.cell? ⟨g27_15, 1, none⟩ = some (.slice A18 n18 c18) := xg27_15.cell 1
      have cxg27_15_2 : w15.cell? ⟨g27_15, 2, none⟩ = some (.slice A'18 n'18 c'18) := xg27_15.cell 2
      have lxg27_15_0 : g27_15 < w15.heap.size := by have := xg27_15.lt; omega
      have lxg27_15_1 : g27_15 < w15.heap.size + 1 := by have := xg27_15.lt; omega
      have lxg27_15_2 : g27_15 < w15.heap.size + 2 := by have := xg27_15.lt; omega
      have lxg27_15_3 : g27_15 < w15.heap.size + 3 := by have := xg27_15.lt; omega
      go_wp2_with fail
      go_region_held3 (fun w' => Sees w15.heap.size w15 w') (first | with_reducible exact Sees.of (Nat.le_refl _) (by assumption) | with_reducible exact Sees.of (Nat.le_refl _) (brefl _).drew | exact Sees.of (Nat.le_refl _) (below_drewN (brefl _) 1) | exact Sees.of (Nat.le_refl _) (below_drewN (by assumption) _))
        (first
          | (go_at_call 18; (with_reducible refine (g_same_e _ b4 A4 n4 c4 A'4 n'4 c'4 x4 (tadd (⟨ra.q, x⟩) (⟨rb.q, x'⟩)) (2 * (6) + 2 * (6) + 3) ?_ b5 A5 n5 c5 A'5 n'5 c'5 x5 (tadd (⟨rb.q, x'⟩) (⟨ra.q, x⟩)) (2 * (6) + 2 * (6) + 3) ?_ true ?_ ?_ ?_ ?_ ?_).mono ?_); (exact h4.tk); (exact h5.tk); (exact ⟨fun _ => tadd_comm HOK.out.1 HOK.out.2.1, fun _ => rfl⟩); (first | omega | decide | assumption); (first | omega | decide | assumption); (first | omega | decide | assumption); (first | omega | decide | assumption); rintro e w20 ⟨rfl, hb20⟩; replace hb20 := bnext (below_drewN (brefl _) 1) hb20; have q20 : Below w15.heap.size w15 w20 := bnext (brefl w15) hb20; replace hTa := hTa.belw hb20; replace hTb := hTb.belw hb20; replace hTc := hTc.belw hb20; replace h4 := h4.belw hb20; replace h5 := h5.belw hb20; replace h6 := h6.belw hb20; replace h7 := h7.belw hb20; replace h8 := h8.belw hb20; replace h9 := h9.belw hb20; replace h10 := h10.belw hb20; replace h11 := h11.belw hb20; replace h12 := h12.belw hb20; replace h13 := h13.belw hb20; replace h18 := h18.belw hb20)
          | (go_at_call 18; (with_reducible refine (g_same_e _ b6 A6 n6 c6 A'6 n'6 c'6 x6 (tadd (tadd (⟨ra.q, x⟩) (⟨rb.q, x'⟩)) (⟨rc.q, x2⟩)) (2 * (2 * (6) + 2 * (6) + 3) + 2 * (6) + 3) ?_ b8 A8 n8 c8 A'8 n'8 c'8 x8 (tadd (⟨ra.q, x⟩) (tadd (⟨rb.q, x'⟩) (⟨rc.q, x2⟩))) (2 * (6) + 2 * (2 * (6) + 2 * (6) + 3) + 3) ?_ true ?_ ?_ ?_ ?_ ?_).mono ?_); (exact h6.tk); (exact h8.tk); (exact ⟨fun _ => tadd_assoc HOK.out.1 HOK.out.2.1 HOK.out.2.2, fun _ => rfl⟩); (first | omega | decide | assumption); (first | omega | decide | assumption); (first | omega | decide | assumption); (first | omega | decide | assumption); rintro e w21 ⟨rfl, hb21⟩; have q21 : Below w15.heap.size w15 w21 := bnext q20 hb21; replace hTa := hTa.belw hb21; replace hTb := hTb.belw hb21; replace hTc := hTc.belw hb21; replace h4 := h4.belw hb21; replace h5 := h5.belw hb21; replace h6 := h6.belw hb21; replace h7 := h7.belw hb21; replace h8 := h8.belw hb21; replace h9 := h9.belw hb21; replace h10 := h10.belw hb21; replace h11 := h11.belw hb21; replace h12 := h12.belw hb21; replace h13 := h13.belw hb21; replace h18 := h18.belw hb21)
          | (go_at_call 18; (with_reducible refine (g_same_e _ b10 A10 n10 c10 A'10 n'10 c'10 x10 (tadd (⟨ra.q, x⟩) (tneg (⟨ra.q, x⟩))) (2 * (6) + 2 * ((6)) + 3) ?_ false none 0 0 none 0 0 false tzero 1 ?_ true ?_ ?_ ?_ ?_ ?_).mono ?_); (exact h10.tk); (exact (TK.zero _)); (exact ⟨fun _ => tadd_neg HOK.out.1, fun _ => rfl⟩); (first | omega | decide | assumption); (first | omega | decide | assumption); (first | omega | decide | assumption); (first | omega | decide | assumption); rintro e w22 ⟨rfl, hb22⟩; have q22 : Below w15.heap.size w15 w22 := bnext q21 hb22; replace hTa := hTa.belw hb22; replace hTb := hTb.belw hb22; replace hTc := hTc.belw hb22; replace h4 := h4.belw hb22; replace h5 := h5.belw hb22; replace h6 := h6.belw hb22; replace h7 := h7.belw hb22; replace h8 := h8.belw hb22; replace h9 := h9.belw hb22; replace h10 := h10.belw hb22; replace h11 := h11.belw hb22; replace h12 := h12.belw hb22; replace h13 := h13.belw hb22; replace h18 := h18.belw hb22)
          | (go_at_call 18; (with_reducible refine (g_same_e _ b13 A13 n13 c13 A'13 n'13 c'13 x13 (tof (tcos (⟨ra.q, x⟩)) (tsin (⟨ra.q, x⟩))) ((4 * (6) + 4) + (4 * (6) + 4) + 2) ?_ b A n c D m e x (⟨ra.q, x⟩) (6) ?_ true ?_ ?_ ?_ ?_ ?_).mono ?_); (exact h13.tk); (exact hTa); (exact ⟨fun _ => tof_cs HOK.out.1, fun _ => rfl⟩); (first | omega | decide | assumption); (first | omega | decide | assumption); (first | omega | decide | assumption); (first | omega | decide | assumption); rintro e w23 ⟨rfl, hb23⟩; have q23 : Below w15.heap.size w15 w23 := bnext q22 hb23; replace hTa := hTa.belw hb23; replace hTb := hTb.belw hb23; replace hTc := hTc.belw hb23; replace h4 := h4.belw hb23; replace h5 := h5.belw hb23; replace h6 := h6.belw hb23; replace h7 := h7.belw hb23; replace h8 := h8.belw hb23; replace h9 := h9.belw hb23; replace h10 := h10.belw hb23; replace h11 := h11.belw hb23; replace h12 := h12.belw hb23; replace h13 := h13.belw hb23; replace h18 := h18.belw hb23)
          | (go_at_call 19; (with_reducible refine (f_of _ (1) ?_ ?_).mono ?_); (first | omega | decide | assumption); (first | omega | decide | assumption); rintro e w24 ⟨b24, A24, n24, c24, A'24, n'24, c'24, rfl, h24, hb24⟩; have q24 : Below w15.heap.size w15 w24 := bnext q23 hb24; replace hTa := hTa.belw hb24; replace hTb := hTb.belw hb24; replace hTc := hTc.belw hb24; replace h4 := h4.belw hb24; replace h5 := h5.belw hb24; replace h6 := h6.belw hb24; replace h7 := h7.belw hb24; replace h8 := h8.belw hb24; replace h9 := h9.belw hb24; replace h10 := h10.belw hb24; replace h11 := h11.belw hb24; replace h12 := h12.belw hb24; replace h13 := h13.belw hb24; replace h18 := h18.belw hb24)
          | (go_at_call 13; (with_reducible refine (f_cmp_eq _ b18 A18 n18 c18 A'18 n'18 c'18 (((tcos (⟨ra.q, x⟩)) * (tcos (⟨ra.q, x⟩))) + ((tsin (⟨ra.q, x⟩)) * (tsin (⟨ra.q, x⟩)))) (((4 * (6) + 4) + (4 * (6) + 4)) + ((4 * (6) + 4) + (4 * (6) + 4)) + 1) ?_ b24 A24 n24 c24 A'24 n'24 c'24 (((1 : Int) : Rat)) (1) ?_  ?_ ?_ ?_ ?_ ?_).mono ?_); (exact h18.qz); (exact h24.qz); (exact HU.out); (first | omega | decide | assumption); (first | omega | decide | assumption); (first | omega | decide | assumption); (first | omega | decide | assumption); rintro e w25 ⟨rfl, hb25⟩; have q25 : Below w15.heap.size w15 w25 := bnext q24 hb25; replace hTa := hTa.belw hb25; replace hTb := hTb.belw hb25; replace hTc := hTc.belw hb25; replace h4 := h4.belw hb25; replace h5 := h5.belw hb25; replace h6 := h6.belw hb25; replace h7 := h7.belw hb25; replace h8 := h8.belw hb25; replace h9 := h9.belw hb25; replace h10 := h10.belw hb25; replace h11 := h11.belw hb25; replace h12 := h12.belw hb25; replace h13 := h13.belw hb25; replace h18 := h18.belw hb25; replace h24 := h24.belw hb25))
      have bw25 : Below w.heap.size w w25 := bw15.trans (q25.mono bw15.size)
      clear cz15_0_0 cz15_0_1 cz15_0_2 cz15_0_3 lz15_0_0 lz15_0_1 lz15_0_2 lz15_0_3 lz15_1_0 lz15_1_1 lz15_1_2 lz15_1_3 lz15_2_0 lz15_2_1 lz15_2_2 lz15_2_3 lz15_3_0 lz15_3_1 lz15_3_2 lz15_3_3 lz15_4_0 lz15_4_1 lz15_4_2 lz15_4_3 cz15_5_0 cz15_5_1 cz15_5_2 cz15_5_3 lz15_5_0 lz15_5_1 lz15_5_2 lz15_5_3 cz15_6_0 cz15_6_1 cz15_6_2 cz15_6_3 lz15_6_0 lz15_6_1 lz15_6_2 lz15_6_3 cz15_7_0 cz15_7_1 cz15_7_2 cz15_7_3 lz15_7_0 lz15_7_1 lz15_7_2 lz15_7_3 lz15_8_0 lz15_8_1 lz15_8_2 lz15_8_3 cz15_9_0 cz15_9_1 cz15_9_2 cz15_9_3 lz15_9_0 lz15_9_1 lz15_9_2 lz15_9_3 lz15_10_0 lz15_10_1 lz15_10_2 lz15_10_3 cz15_11_0 cz15_11_1 cz15_11_2 cz15_11_3 lz15_11_0 lz15_11_1 lz15_11_2 lz15_11_3 lz15_12_0 lz15_12_1 lz15_12_2 lz15_12_3 lz15_13_0 lz15_13_1 lz15_13_2 lz15_13_3 cz15_14_0 cz15_14_1 cz15_14_2 cz15_14_3 lz15_14_0 lz15_14_1 lz15_14_2 lz15_14_3 cxg27_15_0 cxg27_15_1 cxg27_15_2 lxg27_15_0 lxg27_15_1 lxg27_15_2 lxg27_15_3
      replace z15_0 : Blk w25 (w.heap.size) 26 #[.bool b, .slice A n c, .slice D m e, .bool x] := z15_0.below q25 z15_0.lt
      replace z15_1 : Blk w25 (w.heap.size + 1) 26 #[.bool b', .slice A' n' c', .slice D' m' e', .bool x'] := z15_1.below q25 z15_1.lt
      replace z15_2 : Blk w25 (w.heap.size + 1 + 1) 26 #[.bool b2, .slice A2 n2 c2, .slice D2 m2 e2, .bool x2] := z15_2.below q25 z15_2.lt
      replace z15_3 : Blk w25 (w1.heap.size) 24 #[.bool b, .slice A n c, .slice D m e, .bool b', .slice A' n' c', .slice D' m' e', .bool b2, .slice A2 n2 c2, .slice D2 m2 e2] := z15_3.below q25 z15_3.lt
      replace z15_4 : Blk w25 (w2.heap.size) 26 #[.bool b, .slice A n c, .slice D m e, .bool x, .bool b', .slice A' n' c', .slice D' m' e', .bool x', .bool b2, .slice A2 n2 c2, .slice D2 m2 e2, .bool x2] := z15_4.below q25 z15_4.lt
      replace z15_5 : Blk w25 (w4.heap.size) 26 #[.bool b4, .slice A4 n4 c4, .slice A'4 n'4 c'4, .bool x4] := z15_5.below q25 z15_5.lt
      replace z15_6 : Blk w25 (w5.heap.size) 26 #[.bool b5, .slice A5 n5 c5, .slice A'5 n'5 c'5, .bool x5] := z15_6.below q25 z15_6.lt
      replace z15_7 : Blk w25 (w6.heap.size) 26 #[.bool b6, .slice A6 n6 c6, .slice A'6 n'6 c'6, .bool x6] := z15_7.below q25 z15_7.lt
      replace z15_8 : Blk w25 (w7.heap.size) 26 #[.bool b7, .slice A7 n7 c7, .slice A'7 n'7 c'7, .bool x7] := z15_8.below q25 z15_8.lt
      replace z15_9 : Blk w25 (w8.heap.size) 26 #[.bool b8, .slice A8 n8 c8, .slice A'8 n'8 c'8, .bool x8] := z15_9.below q25 z15_9.lt
      replace z15_10 : Blk w25 (w9.heap.size) 26 #[.bool b9, .slice A9 n9 c9, .slice A'9 n'9 c'9, .bool x9] := z15_10.below q25 z15_10.lt
      replace z15_11 : Blk w25 (w10.heap.size) 26 #[.bool b10, .slice A10 n10 c10, .slice A'10 n'10 c'10, .bool x10] := z15_11.below q25 z15_11.lt
      replace z15_12 : Blk w25 (w11.heap.size) 24 #[.bool b11, .slice A11 n11 c11, .slice A'11 n'11 c'11] := z15_12.below q25 z15_12.lt
      replace z15_13 : Blk w25 (w12.heap.size) 24 #[.bool b12, .slice A12 n12 c12, .slice A'12 n'12 c'12] := z15_13.below q25 z15_13.lt
      replace z15_14 : Blk w25 (w13.heap.size) 26 #[.bool b13, .slice A13 n13 c13, .slice A'13 n'13 c'13, .bool x13] := z15_14.below q25 z15_14.lt
      replace xg27_15 : Blk w25 (g27_15) 24 #[.bool b18, .slice A18 n18 c18, .slice A'18 n'18 c'18] := xg27_15.below q25 xg27_15.lt
      have lw25 : w15.heap.size ≤ w25.heap.size := q25.size
      go_wp2_with fail
      go_ret
      exact retB rfl bw25
end Go.Proofs.Ytmneloabphplmaa

namespace Go.Proofs.Ytmneloabphplmaa
open Go Go.RowKit Bn Go.ChangeShapes Go.WideShapes
theorem own_knob : ownKnob Try.prog.godebug = none := by kernel_rfl
theorem laid_out : laidOutB Try.prog = true := by kernel_rfl
set_option maxRecDepth 100000 in
theorem group_lifted (os : Os) (started : os.Started) (H : Type) (enc : TypeId × Value → H) :
    ReturnsInHanded {} Try.checked os 4 .any (Rows.turnGroupSpec.pre6 enc Try.prog Try.f4 Rows.turnGroupRow.domain false) (Rows.turnGroupSpec.post enc Try.prog Try.f4 false true false false) := by
  refine returnsInHanded_of_change (C := Try.checked) own_knob started (by kernel_rfl) Try.func4
    (ChangeSpec.witness6 (enc := enc) (C := Try.checked) false ⟨#[], #[.agg #[.bool false, .slice none 0 0, .slice none 0 0, .bool false], .agg #[.bool false, .slice none 0 0, .slice none 0 0, .bool false], .agg #[.bool false, .slice none 0 0, .slice none 0 0, .bool false]], []⟩ 8 (by kernel_rfl) (by kernel_rfl) (by kernel_rfl) (by kernel_rfl)) ?_
  intro W base args ds gs before hval0 hW _ _
  have hval : ∀ (j : Nat) t v, Try.f4.params[j]? = some t → args[j]? = some v → Value.okWide Try.prog W .any base t v := hval0
  have hW' := hW
  obtain ⟨p, q, hA0, hV, rfl, hfz, hnd⟩ := hW
  have hA : DataW.TrodAll enc Try.prog W 0 (fun _ => true) true Try.f4.params.toList args.toList ds p := hA0
  rw [Try.params4] at hA hval
  obtain ⟨v0, v1, v2, d0, d1, d2, p0, p1, p2, rfl, rfl, rfl, h0, h1, h2⟩ := trodAll_three hA
  obtain ⟨rfl, rfl⟩ := trodVars_none hV
  obtain ⟨b, A, n, c, D, m, e, ra, k, x, rfl, Ha⟩ := turn_open (hval 0 _ v0 rfl rfl) h0
  obtain ⟨b', A', n', c', D', m', e', rb, k', x', rfl, Hb⟩ := turn_open (hval 1 _ v1 rfl rfl) h1
  obtain ⟨b2, A2, n2, c2, D2, m2, e2, rc, k2, x2, rfl, Hc⟩ := turn_open (hval 2 _ v2 rfl rfl) h2
  refine (l_TurnGroup W b A n c D m e ra k Ha b' A' n' c' D' m' e' rb k' Hb b2 A2 n2 c2 D2 m2 e2 rc k2 Hc x x' x2).mono fun e W' ⟨he, hb⟩ => ?_
  subst he
  exact ⟨_, rfl, law_post laid_out Try.underlying4 hW' rfl rfl (by kernel_rfl) rfl rfl rfl hb⟩
theorem group_holds : Rows.TurnGroupSaid :=
  OpenClaim.holds_of_wide 4 Try.f4 rfl rfl rfl rfl rfl rfl rfl ⟨rfl, rfl, rfl, rfl, rfl⟩ rfl rfl rfl rfl rfl (by kernel_rfl) Try.func4 (by kernel_rfl)
    (of_decide_eq_true (by kernel_rfl)) (by unfold Func.isWrapper; rw [if_neg (of_decide_eq_false (by kernel_rfl))]; exact ⟨rfl, rfl⟩)
    (fun os started H enc _ => group_lifted os started H enc)
end Go.Proofs.Ytmneloabphplmaa
