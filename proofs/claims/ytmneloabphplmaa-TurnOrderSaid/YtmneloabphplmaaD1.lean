/- TurnOrder: the order of turns is total; of three different turns one of two is in the arc, not both; Between is in the arc, and no end of it; for every input the law returns true. No condition. -/
import Derived.Deep.RegionHeld3
import Derived.Deep.DrawnRows
import Derived.Deep.DeepCutAuto
import Derived.Test.YtmneloabphplmaaA5
set_option linter.unusedVariables false
/- Walks: the laws' own small functions: good. -/
namespace Go.Proofs.Ytmneloabphplmaa
open Go Go.RowKit Bn
attribute [local go_sem ↓] Go.wp_at_zero Go.wp_at_succ
def RetGd (w : World) (N : Nat) (rs : Nat → RD) (xs : Nat → Bool) (e : Ending) (w' : World) : Prop := ∃ r : Bool, e = .returned (.bool r) ∧ (r = true → ∀ i, i < N → accT (rs i) (xs i) = true) ∧ Below w.heap.size w w'
set_option maxRecDepth 100000 in
set_option maxHeartbeats 2000000 in
theorem l_good (w : World) (g N k : Nat) (rs : Nat → RD) (xs : Nat → Bool) (h : Gs w g N k rs xs) (hN : N ≤ 1000) (h0 : 0 < k) (hk : k ≤ 30000000) :
    Calls Try.prog 8 #[.slice (some ⟨g, 0, none⟩) N N] w (RetGd w N rs xs) := by
  go_enter Try.func8, Try.ntmps8
  go_wp2_with fail
  go_loopw [7] (fun iv wr => ∃ i : Nat, i ≤ N ∧ iv = .int .i64 (i : Nat) ∧ (∀ j, j < i → accT (rs j) (xs j) = true) ∧ Below w.heap.size w wr) (fun iv _ => N - (intOf iv).toNat)
  case atStart => exact ⟨0, Nat.zero_le _, rfl, fun j hj => absurd hj (by omega), brefl w⟩
  case round =>
    obtain ⟨i, hi, rfl, hall, hb⟩ := hrel
    have HA := Lib.hid hall
    have HB := Lib.hid hb
    by_cases hlt : i < N
    · have hw := h.belw hb
      obtain ⟨b, A, m, c, D, m', e, c0, c1, c2, c3, h5⟩ := hw.2 i hlt
      have hgl := hw.1
      obtain ⟨x, hx⟩ : ∃ x, xs i = x := ⟨_, rfl⟩
      rw [hx] at c3
      have HX := Lib.hid hx
      have H := Lib.hid h
      clear h hw hall hb hx
      go_wp2_with fail
      (with_reducible refine (g_check _ b A m c D m' e (rs i) k ?_ ?_ ?_ x).mono ?_); (exact h5.belw ((Below.refl _ _).alloc (Nat.le_refl _) _)); (exact h0); (exact hk); rintro e w1 ⟨rfl, hb1⟩
      have HB1 := Lib.hid (HB.out.trans ((((Below.refl _ _).alloc (Nat.le_refl _) _).trans (hb1.mono (by simp))).mono HB.out.size))
      clear hb1
      by_cases hacc : accT (rs i) x = true
      · rw [if_pos hacc]
        have HC := Lib.hid hacc
        clear hacc
        go_wp2_with fail
        go_roundw
        case rel => exact ⟨i + 1, by omega, by go_num, fun j hj => by
          by_cases hji : j = i
          · subst hji; rw [HX.out]; exact HC.out
          · exact HA.out j (by omega), HB1.out⟩
        case measure => simp [intOf]; omega
      · rw [if_neg hacc]
        clear hacc
        go_wp2_with fail
        go_ret
        exact ⟨false, rfl, (fun h => nomatch h), HB1.out⟩
    · have hiN : i = N := by omega
      subst hiN
      clear h hall hb
      go_wp2_with fail
      go_ret
      exact ⟨true, rfl, fun _ => HA.out, HB.out⟩
end Go.Proofs.Ytmneloabphplmaa

/- Walks: opposite turns, parts, comparison. -/
namespace Go.Proofs.Ytmneloabphplmaa
open Go Go.RowKit Bn
attribute [local go_sem ↓] Go.wp_at_zero Go.wp_at_succ
set_option maxRecDepth 100000 in
set_option maxHeartbeats 2000000 in
/-- turn.neg -/
theorem t_neg (w : World) (b : Bool) (A : Option Addr) (n c : Nat) (D : Option Addr) (m e : Nat) (x : Bool) (t : TN) (k : Nat) (h : TK w b A n c D m e x t k) (h0 : 0 < k) (hk : k ≤ 1000000) :
    Calls Try.prog 36 #[.agg #[.bool b, .slice A n c, .slice D m e, .bool x]] w (RetT w (tneg t) k) := by
  go_enter Try.func36, Try.ntmps36
  go_wp2_with fail
  have p1 : Kp w ((w.alloc (.cells #[.bool b, .slice A n c, .slice D m e, .bool x] 26)).alloc (.cells #[.bool false, .slice none 0 0, .slice none 0 0, .bool false] 26)) := (((Kp.refl w).alloc (.cells #[.bool b, .slice A n c, .slice D m e, .bool x] 26)).alloc (.cells #[.bool false, .slice none 0 0, .slice none 0 0, .bool false] 26))
  have bw1 : Below w.heap.size w ((w.alloc (.cells #[.bool b, .slice A n c, .slice D m e, .bool x] 26)).alloc (.cells #[.bool false, .slice none 0 0, .slice none 0 0, .bool false] 26)) := (((brefl w).alloc (by first | omega | (simp <;> omega)) (.cells #[.bool b, .slice A n c, .slice D m e, .bool x] 26)).alloc (by first | omega | (simp <;> omega)) (.cells #[.bool false, .slice none 0 0, .slice none 0 0, .bool false] 26))
  have x1_0 : Blk ((w.alloc (.cells #[.bool b, .slice A n c, .slice D m e, .bool x] 26)).alloc (.cells #[.bool false, .slice none 0 0, .slice none 0 0, .bool false] 26)) (w.heap.size) 26 #[.bool b, .slice A n c, .slice D m e, .bool x] := ((blkAt _ _ _ (by simp)).alloc (.cells #[.bool false, .slice none 0 0, .slice none 0 0, .bool false] 26))
  have x1_1 : Blk ((w.alloc (.cells #[.bool b, .slice A n c, .slice D m e, .bool x] 26)).alloc (.cells #[.bool false, .slice none 0 0, .slice none 0 0, .bool false] 26)) (w.heap.size + 1) 26 #[.bool false, .slice none 0 0, .slice none 0 0, .bool false] := (blkAt _ _ _ (by simp))
  have lw1 : w.heap.size + 2 ≤ ((w.alloc (.cells #[.bool b, .slice A n c, .slice D m e, .bool x] 26)).alloc (.cells #[.bool false, .slice none 0 0, .slice none 0 0, .bool false] 26)).heap.size := by simp
  generalize hE1 : ((w.alloc (.cells #[.bool b, .slice A n c, .slice D m e, .bool x] 26)).alloc (.cells #[.bool false, .slice none 0 0, .slice none 0 0, .bool false] 26)) = w1 at p1 bw1 lw1 x1_0 x1_1 ⊢
  clear hE1
  replace h := h.keep p1
  have cx1_0_0 : w1.cell? ⟨w.heap.size, 0, none⟩ = some (.bool b) := x1_0.cell 0
  have cx1_0_1 : w1.cell? ⟨w.heap.size, 1, none⟩ = some (.slice A n c) := x1_0.cell 1
  have cx1_0_2 : w1.cell? ⟨w.heap.size, 2, none⟩ = some (.slice D m e) := x1_0.cell 2
  have cx1_0_3 : w1.cell? ⟨w.heap.size, 3, none⟩ = some (.bool x) := x1_0.cell 3
  have lx1_0_0 : w.heap.size < w1.heap.size := by have := x1_0.lt; omega
  have lx1_0_1 : w.heap.size < w1.heap.size + 1 := by have := x1_0.lt; omega
  have lx1_0_2 : w.heap.size < w1.heap.size + 2 := by have := x1_0.lt; omega
  have lx1_0_3 : w.heap.size < w1.heap.size + 3 := by have := x1_0.lt; omega
  have cx1_1_0 : w1.cell? ⟨w.heap.size + 1, 0, none⟩ = some (.bool false) := x1_1.cell 0
  have fx1_1_0 : w1.frozen? ⟨w.heap.size + 1, 0, none⟩ = false := x1_1.frozen 0
  have cx1_1_1 : w1.cell? ⟨w.heap.size + 1, 1, none⟩ = some (.slice none 0 0) := x1_1.cell 1
  have fx1_1_1 : w1.frozen? ⟨w.heap.size + 1, 1, none⟩ = false := x1_1.frozen 1
  have cx1_1_2 : w1.cell? ⟨w.heap.size + 1, 2, none⟩ = some (.slice none 0 0) := x1_1.cell 2
  have fx1_1_2 : w1.frozen? ⟨w.heap.size + 1, 2, none⟩ = false := x1_1.frozen 2
  have cx1_1_3 : w1.cell? ⟨w.heap.size + 1, 3, none⟩ = some (.bool false) := x1_1.cell 3
  have fx1_1_3 : w1.frozen? ⟨w.heap.size + 1, 3, none⟩ = false := x1_1.frozen 3
  have lx1_1_0 : w.heap.size + 1 < w1.heap.size := by have := x1_1.lt; omega
  have lx1_1_1 : w.heap.size < w1.heap.size := by have := x1_1.lt; omega
  have lx1_1_2 : w.heap.size < w1.heap.size + 1 := by have := x1_1.lt; omega
  have lx1_1_3 : w.heap.size < w1.heap.size + 2 := by have := x1_1.lt; omega
  have nfx1_0_0 : ¬ w.heap.size = w.heap.size + 1 := by omega
  have nex1_0_0 : ¬ w.heap.size = w.heap.size + 1 := by omega
  go_region_held3 (fun w' => SeesX w1.heap.size (w.heap.size + 1) w1 w') (first | with_reducible exact SeesX.of (Nat.le_refl _) (by assumption) | with_reducible exact SeesX.of (Nat.le_refl _) (brefl _).drew | with_reducible exact (SeesX.set (SeesX.set (SeesX.set (SeesX.set (SeesX.of (Nat.le_refl _) (by assumption)))))) | with_reducible exact (SeesX.set (SeesX.set (SeesX.set (SeesX.of (Nat.le_refl _) (by assumption))))) | with_reducible exact (SeesX.set (SeesX.set (SeesX.of (Nat.le_refl _) (by assumption)))) | with_reducible exact (SeesX.set (SeesX.of (Nat.le_refl _) (by assumption))) | exact SeesX.of (Nat.le_refl _) (below_drewN (brefl _) 1) | exact SeesX.of (Nat.le_refl _) (below_drewN (by assumption) _))
    (first
      | (go_at_call 50; (with_reducible refine (f_neg _ b A n c D m e ((t).t) (k) ?_ ?_ ?_).mono ?_); (exact h.qz); (first | omega | decide | assumption); (first | omega | decide | assumption); rintro e w2 ⟨b2, A2, n2, c2, A'2, n'2, c'2, rfl, h2, hb2⟩; replace hb2 := bnext (below_drewN (brefl _) 1) hb2; have q2 : Below w1.heap.size w1 w2 := bnext (brefl w1) hb2; replace h := h.belw hb2; have x1_1 : Blk w2 (w.heap.size + 1) 26 #[.bool false, .slice none 0 0, .slice none 0 0, .bool false] := x1_1.below q2 x1_1.lt; have cx1_1_0 : w2.cell? ⟨w.heap.size + 1, 0, none⟩ = some (.bool false) := x1_1.cell 0; have cx1_1_1 : w2.cell? ⟨w.heap.size + 1, 1, none⟩ = some (.slice none 0 0) := x1_1.cell 1; have cx1_1_2 : w2.cell? ⟨w.heap.size + 1, 2, none⟩ = some (.slice none 0 0) := x1_1.cell 2; have cx1_1_3 : w2.cell? ⟨w.heap.size + 1, 3, none⟩ = some (.bool false) := x1_1.cell 3; have fx1_1_0 : w2.frozen? ⟨w.heap.size + 1, 0, none⟩ = false := x1_1.frozen 0; have fx1_1_1 : w2.frozen? ⟨w.heap.size + 1, 1, none⟩ = false := x1_1.frozen 1; have fx1_1_2 : w2.frozen? ⟨w.heap.size + 1, 2, none⟩ = false := x1_1.frozen 2; have fx1_1_3 : w2.frozen? ⟨w.heap.size + 1, 3, none⟩ = false := x1_1.frozen 3))
  have bw2 : Below w.heap.size w w2 := bw1.trans (q2.mono bw1.size)
  clear cx1_0_0 cx1_0_1 cx1_0_2 cx1_0_3 lx1_0_0 lx1_0_1 lx1_0_2 lx1_0_3 cx1_1_0 fx1_1_0 cx1_1_1 fx1_1_1 cx1_1_2 fx1_1_2 cx1_1_3 fx1_1_3 lx1_1_0 lx1_1_1 lx1_1_2 lx1_1_3
  replace x1_0 : Blk w2 (w.heap.size) 26 #[.bool b, .slice A n c, .slice D m e, .bool x] := x1_0.below q2 x1_0.lt
  have lw2 : w1.heap.size ≤ w2.heap.size := q2.size
  have cx1_1_0 : w2.cell? ⟨w.heap.size + 1, 0, none⟩ = some (.bool false) := x1_1.cell 0
  have fx1_1_0 : w2.frozen? ⟨w.heap.size + 1, 0, none⟩ = false := x1_1.frozen 0
  have cx1_1_1 : w2.cell? ⟨w.heap.size + 1, 1, none⟩ = some (.slice none 0 0) := x1_1.cell 1
  have fx1_1_1 : w2.frozen? ⟨w.heap.size + 1, 1, none⟩ = false := x1_1.frozen 1
  have cx1_1_2 : w2.cell? ⟨w.heap.size + 1, 2, none⟩ = some (.slice none 0 0) := x1_1.cell 2
  have fx1_1_2 : w2.frozen? ⟨w.heap.size + 1, 2, none⟩ = false := x1_1.frozen 2
  have cx1_1_3 : w2.cell? ⟨w.heap.size + 1, 3, none⟩ = some (.bool false) := x1_1.cell 3
  have fx1_1_3 : w2.frozen? ⟨w.heap.size + 1, 3, none⟩ = false := x1_1.frozen 3
  go_wp2_with fail
  -- h2
  refine bodyPost_ret (v := .agg #[.bool b2, .slice A2 n2 c2, .slice A'2 n'2 c'2, .bool x]) (by simp [results, Try.results36, go_sem, *] <;> first | rfl | exact ⟨rfl, rfl⟩) rfl ?_
  have kp := (((((Kp.refl w2).setB (p := ⟨w.heap.size + 1, 0, none⟩) x1_1.box (by decide) (.bool b2)).setB (p := ⟨w.heap.size + 1, 1, none⟩) (x1_1.box.set ⟨w.heap.size + 1, 0, none⟩ (.bool b2)) (by decide) (.slice A2 n2 c2)).setB (p := ⟨w.heap.size + 1, 2, none⟩) ((x1_1.box.set ⟨w.heap.size + 1, 0, none⟩ (.bool b2)).set ⟨w.heap.size + 1, 1, none⟩ (.slice A2 n2 c2)) (by decide) (.slice A'2 n'2 c'2)).setB (p := ⟨w.heap.size + 1, 3, none⟩) (((x1_1.box.set ⟨w.heap.size + 1, 0, none⟩ (.bool b2)).set ⟨w.heap.size + 1, 1, none⟩ (.slice A2 n2 c2)).set ⟨w.heap.size + 1, 2, none⟩ (.slice A'2 n'2 c'2)) (by decide) (.bool x))
  exact ⟨b2, A2, n2, c2, A'2, n'2, c'2, x, rfl, ⟨h2.keep kp, h.2.1, tneg_ok h.2.2⟩, ((((bw2.setCell (p := ⟨w.heap.size + 1, 0, none⟩) (by dsimp only; omega) (.bool b2)).setCell (p := ⟨w.heap.size + 1, 1, none⟩) (by dsimp only; omega) (.slice A2 n2 c2)).setCell (p := ⟨w.heap.size + 1, 2, none⟩) (by dsimp only; omega) (.slice A'2 n'2 c'2)).setCell (p := ⟨w.heap.size + 1, 3, none⟩) (by dsimp only; omega) (.bool x))⟩
set_option maxRecDepth 100000 in
set_option maxHeartbeats 2000000 in
/-- turn.part -/
theorem t_part_true (w : World) (b : Bool) (A : Option Addr) (n c : Nat) (D : Option Addr) (m e : Nat) (t : TN) (k : Nat) (h : TK w b A n c D m e true t k) (h0 : 0 < k) (hk : k ≤ 1000000) :
    Calls Try.prog 63 #[.agg #[.bool b, .slice A n c, .slice D m e, .bool true]] w (RetV w (.int .i64 1)) := by
  have H := Lib.hid h
  clear h
  go_enter Try.func63, Try.ntmps63
  go_wp2
  go_ret
  exact retI rfl ((Below.refl _ _).alloc (Nat.le_refl _) _)
set_option maxRecDepth 100000 in
set_option maxHeartbeats 2000000 in
/-- turn.part -/
theorem t_part_neg (w : World) (b : Bool) (A : Option Addr) (n c : Nat) (D : Option Addr) (m e : Nat) (t : TN) (k : Nat) (h : TK w b A n c D m e false t k) (h0 : 0 < k) (hk : k ≤ 1000000) (hs : t.t.num.sign = -1) :
    Calls Try.prog 63 #[.agg #[.bool b, .slice A n c, .slice D m e, .bool false]] w (RetV w (.int .i64 2)) := by
  have HS := Lib.hid hs
  clear hs
  go_enter Try.func63, Try.ntmps63
  go_wp2_with fail
  (with_reducible refine (f_sign_e _ b A n c D m e ((t).t) (k) ?_ (-1) ?_ ?_ ?_).mono ?_); (exact (h.belw ((Below.refl _ _).alloc (Nat.le_refl _) _)).qz); (exact HS.out); (first | omega | decide | assumption); (first | omega | decide | assumption); rintro e w1 ⟨rfl, hb1⟩
  have q1 : Below w.heap.size w w1 := ((Below.refl _ _).alloc (Nat.le_refl _) _).trans (hb1.mono (by simp))
  replace h := h.belw q1
  have x1_0 : Blk w1 (w.heap.size) 26 #[.bool b, .slice A n c, .slice D m e, .bool false] := (blkAt _ _ _ (by simp)).below hb1 (by simp)
  have bw1 : Below w.heap.size w w1 := (brefl w).trans (q1.mono (brefl w).size)
  have lw1 : w.heap.size + 1 ≤ w1.heap.size := by have := hb1.size; simp at this; omega
  clear hb1 q1
  go_wp2_with fail
  go_ret
  exact retI rfl bw1
set_option maxRecDepth 100000 in
set_option maxHeartbeats 2000000 in
/-- turn.part -/
theorem t_part_pos (w : World) (b : Bool) (A : Option Addr) (n c : Nat) (D : Option Addr) (m e : Nat) (t : TN) (k : Nat) (h : TK w b A n c D m e false t k) (h0 : 0 < k) (hk : k ≤ 1000000) (s : Int) (hs : t.t.num.sign = s) (h1 : 0 ≤ s) :
    Calls Try.prog 63 #[.agg #[.bool b, .slice A n c, .slice D m e, .bool false]] w (RetV w (.int .i64 0)) := by
  have HS := Lib.hid hs
  have e0 : decide (s < 0) = false := by simp; omega
  clear hs
  go_enter Try.func63, Try.ntmps63
  go_wp2_with fail
  (with_reducible refine (f_sign_e _ b A n c D m e ((t).t) (k) ?_ (s) ?_ ?_ ?_).mono ?_); (exact (h.belw ((Below.refl _ _).alloc (Nat.le_refl _) _)).qz); (exact HS.out); (first | omega | decide | assumption); (first | omega | decide | assumption); rintro e w1 ⟨rfl, hb1⟩
  have q1 : Below w.heap.size w w1 := ((Below.refl _ _).alloc (Nat.le_refl _) _).trans (hb1.mono (by simp))
  replace h := h.belw q1
  have x1_0 : Blk w1 (w.heap.size) 26 #[.bool b, .slice A n c, .slice D m e, .bool false] := (blkAt _ _ _ (by simp)).below hb1 (by simp)
  have bw1 : Below w.heap.size w w1 := (brefl w).trans (q1.mono (brefl w).size)
  have lw1 : w.heap.size + 1 ≤ w1.heap.size := by have := hb1.size; simp at this; omega
  clear hb1 q1
  go_wp2_with fail
  go_ret
  exact retI rfl bw1
theorem t_part (w : World) (b : Bool) (A : Option Addr) (n c : Nat) (D : Option Addr) (m e : Nat) (x : Bool) (t : TN) (k : Nat) (h : TK w b A n c D m e x t k) (h0 : 0 < k) (hk : k ≤ 1000000) : Calls Try.prog 63 #[.agg #[.bool b, .slice A n c, .slice D m e, .bool x]] w (RetV w (.int .i64 (tpart t))) := by
  cases x
  · have hh : t.h = false := h.2.1.symm
    rcases sign3 t.t.num with s | s | s
    · have : tpart t = 0 := by unfold tpart; rw [if_neg (by rw [hh]; decide), if_neg (by rw [Rat.num_eq_zero.1 s]; decide)]
      rw [this]; exact t_part_pos w b A n c D m e t k h h0 hk 0 (by rw [s]; rfl) (by omega)
    · have : tpart t = 0 := by
        have h1 := sign_q t.t
        unfold tpart; rw [if_neg (by rw [hh]; decide), if_neg (by intro h2; rw [if_pos h2] at h1; rw [h1] at s; exact absurd s (by decide))]
      rw [this]; exact t_part_pos w b A n c D m e t k h h0 hk 1 s (by omega)
    · have : tpart t = 2 := by
        have h1 := sign_q t.t
        unfold tpart; rw [if_neg (by rw [hh]; decide)]
        split
        · rfl
        · rename_i h2; rw [if_neg h2, s] at h1; split at h1 <;> exact absurd h1 (by decide)
      rw [this]; exact t_part_neg w b A n c D m e t k h h0 hk s
  · have : tpart t = 1 := by unfold tpart; rw [if_pos h.2.1.symm]
    rw [this]; exact t_part_true w b A n c D m e t k h h0 hk
end Go.Proofs.Ytmneloabphplmaa

/- Walks: comparison of turns; the turn of a cosine and a sine. -/
namespace Go.Proofs.Ytmneloabphplmaa
open Go Go.RowKit Bn
attribute [local go_sem ↓] Go.wp_at_zero Go.wp_at_succ
theorem t_part_e (w : World) (b : Bool) (A : Option Addr) (n c : Nat) (D : Option Addr) (m e : Nat) (x : Bool) (t : TN) (k : Nat) (h : TK w b A n c D m e x t k) (s : Int) (hs : tpart t = s) (h0 : 0 < k) (hk : k ≤ 1000000) : Calls Try.prog 63 #[.agg #[.bool b, .slice A n c, .slice D m e, .bool x]] w (RetV w (.int .i64 s)) := by subst hs; exact t_part w b A n c D m e x t k h h0 hk
theorem cmpI_rcmp (a b : Rat) : cmpI (a.num * b.den) (b.num * a.den) = rcmp a b := by
  unfold cmpI rcmp
  have h := cmp_q a b
  by_cases h1 : a < b
  · rw [if_pos h1, if_pos (h.1.2 h1)]
  · rw [if_neg h1, if_neg (fun x => h1 (h.1.1 x))]
    by_cases h2 : a = b
    · rw [if_pos h2, if_pos (h.2.2 h2)]
    · rw [if_neg h2, if_neg (fun x => h2 (h.2.1 x))]
set_option maxRecDepth 100000 in
set_option maxHeartbeats 2000000 in
/-- turn.compare -/
theorem t_compare_lt (w : World) (b : Bool) (A : Option Addr) (n c : Nat) (D : Option Addr) (m e : Nat) (x : Bool) (t : TN) (k : Nat) (h : TK w b A n c D m e x t k) (b' : Bool) (A' : Option Addr) (n' c' : Nat) (D' : Option Addr) (m' e' : Nat) (x' : Bool) (t' : TN) (k' : Nat) (h' : TK w b' A' n' c' D' m' e' x' t' k') (h0 : 0 < k) (hk : k ≤ 1000000) (h0' : 0 < k') (hk' : k' ≤ 1000000) (hp : tpart t < tpart t') :
    Calls Try.prog 41 #[.agg #[.bool b, .slice A n c, .slice D m e, .bool x], .agg #[.bool b', .slice A' n' c', .slice D' m' e', .bool x']] w (RetV w (.int .i64 (-1))) := by
  obtain ⟨s, hs⟩ : ∃ s, tpart t = s := ⟨_, rfl⟩
  obtain ⟨s', hs'⟩ : ∃ s, tpart t' = s := ⟨_, rfl⟩
  rw [hs, hs'] at hp
  have e1 : decide (s < s') = true := by simp; omega
  have HS := Lib.hid hs
  have HS' := Lib.hid hs'
  clear hs hs' hp
  go_enter Try.func41, Try.ntmps41
  go_wp2_with fail
  have p1 : Kp w ((w.alloc (.cells #[.bool b, .slice A n c, .slice D m e, .bool x] 26)).alloc (.cells #[.bool b', .slice A' n' c', .slice D' m' e', .bool x'] 26)) := (((Kp.refl w).alloc (.cells #[.bool b, .slice A n c, .slice D m e, .bool x] 26)).alloc (.cells #[.bool b', .slice A' n' c', .slice D' m' e', .bool x'] 26))
  have bw1 : Below w.heap.size w ((w.alloc (.cells #[.bool b, .slice A n c, .slice D m e, .bool x] 26)).alloc (.cells #[.bool b', .slice A' n' c', .slice D' m' e', .bool x'] 26)) := (((brefl w).alloc (by first | omega | (simp <;> omega)) (.cells #[.bool b, .slice A n c, .slice D m e, .bool x] 26)).alloc (by first | omega | (simp <;> omega)) (.cells #[.bool b', .slice A' n' c', .slice D' m' e', .bool x'] 26))
  have x1_0 : Blk ((w.alloc (.cells #[.bool b, .slice A n c, .slice D m e, .bool x] 26)).alloc (.cells #[.bool b', .slice A' n' c', .slice D' m' e', .bool x'] 26)) (w.heap.size) 26 #[.bool b, .slice A n c, .slice D m e, .bool x] := ((blkAt _ _ _ (by simp)).alloc (.cells #[.bool b', .slice A' n' c', .slice D' m' e', .bool x'] 26))
  have x1_1 : Blk ((w.alloc (.cells #[.bool b, .slice A n c, .slice D m e, .bool x] 26)).alloc (.cells #[.bool b', .slice A' n' c', .slice D' m' e', .bool x'] 26)) (w.heap.size + 1) 26 #[.bool b', .slice A' n' c', .slice D' m' e', .bool x'] := (blkAt _ _ _ (by simp))
  have lw1 : w.heap.size + 2 ≤ ((w.alloc (.cells #[.bool b, .slice A n c, .slice D m e, .bool x] 26)).alloc (.cells #[.bool b', .slice A' n' c', .slice D' m' e', .bool x'] 26)).heap.size := by simp
  generalize hE1 : ((w.alloc (.cells #[.bool b, .slice A n c, .slice D m e, .bool x] 26)).alloc (.cells #[.bool b', .slice A' n' c', .slice D' m' e', .bool x'] 26)) = w1 at p1 bw1 lw1 x1_0 x1_1 ⊢
  clear hE1
  replace h := h.keep p1
  replace h' := h'.keep p1
  have cx1_0_0 : w1.cell? ⟨w.heap.size, 0, none⟩ = some (.bool b) := x1_0.cell 0
  have cx1_0_1 : w1.cell? ⟨w.heap.size, 1, none⟩ = some (.slice A n c) := x1_0.cell 1
  have cx1_0_2 : w1.cell? ⟨w.heap.size, 2, none⟩ = some (.slice D m e) := x1_0.cell 2
  have cx1_0_3 : w1.cell? ⟨w.heap.size, 3, none⟩ = some (.bool x) := x1_0.cell 3
  have lx1_0_0 : w.heap.size < w1.heap.size := by have := x1_0.lt; omega
  have lx1_0_1 : w.heap.size < w1.heap.size + 1 := by have := x1_0.lt; omega
  have lx1_0_2 : w.heap.size < w1.heap.size + 2 := by have := x1_0.lt; omega
  have lx1_0_3 : w.heap.size < w1.heap.size + 3 := by have := x1_0.lt; omega
  have cx1_1_0 : w1.cell? ⟨w.heap.size + 1, 0, none⟩ = some (.bool b') := x1_1.cell 0
  have cx1_1_1 : w1.cell? ⟨w.heap.size + 1, 1, none⟩ = some (.slice A' n' c') := x1_1.cell 1
  have cx1_1_2 : w1.cell? ⟨w.heap.size + 1, 2, none⟩ = some (.slice D' m' e') := x1_1.cell 2
  have cx1_1_3 : w1.cell? ⟨w.heap.size + 1, 3, none⟩ = some (.bool x') := x1_1.cell 3
  have lx1_1_0 : w.heap.size + 1 < w1.heap.size := by have := x1_1.lt; omega
  have lx1_1_1 : w.heap.size < w1.heap.size := by have := x1_1.lt; omega
  have lx1_1_2 : w.heap.size < w1.heap.size + 1 := by have := x1_1.lt; omega
  have lx1_1_3 : w.heap.size < w1.heap.size + 2 := by have := x1_1.lt; omega
  go_region_held3 (fun w' => Sees w1.heap.size w1 w') (first | with_reducible exact Sees.of (Nat.le_refl _) (by assumption) | with_reducible exact Sees.of (Nat.le_refl _) (brefl _).drew | exact Sees.of (Nat.le_refl _) (below_drewN (brefl _) 1) | exact Sees.of (Nat.le_refl _) (below_drewN (by assumption) _))
    (first
      | (go_at_call 63; (with_reducible refine (t_part_e _ b A n c D m e x (t) (k) ?_ s ?_ ?_ ?_).mono ?_); (exact h); (exact HS.out); (first | omega | decide | assumption); (first | omega | decide | assumption); rintro e w2 ⟨rfl, hb2⟩; replace hb2 := bnext (below_drewN (brefl _) 1) hb2; have q2 : Below w1.heap.size w1 w2 := bnext (brefl w1) hb2; replace h := h.belw hb2; replace h' := h'.belw hb2)
      | (go_at_call 63; (with_reducible refine (t_part_e _ b' A' n' c' D' m' e' x' (t') (k') ?_ s' ?_ ?_ ?_).mono ?_); (exact h'); (exact HS'.out); (first | omega | decide | assumption); (first | omega | decide | assumption); rintro e w3 ⟨rfl, hb3⟩; have q3 : Below w1.heap.size w1 w3 := bnext q2 hb3; replace h := h.belw hb3; replace h' := h'.belw hb3))
  have bw3 : Below w.heap.size w w3 := bw1.trans (q3.mono bw1.size)
  clear cx1_0_0 cx1_0_1 cx1_0_2 cx1_0_3 lx1_0_0 lx1_0_1 lx1_0_2 lx1_0_3 cx1_1_0 cx1_1_1 cx1_1_2 cx1_1_3 lx1_1_0 lx1_1_1 lx1_1_2 lx1_1_3
  replace x1_0 : Blk w3 (w.heap.size) 26 #[.bool b, .slice A n c, .slice D m e, .bool x] := x1_0.below q3 x1_0.lt
  replace x1_1 : Blk w3 (w.heap.size + 1) 26 #[.bool b', .slice A' n' c', .slice D' m' e', .bool x'] := x1_1.below q3 x1_1.lt
  have lw3 : w1.heap.size ≤ w3.heap.size := q3.size
  go_wp2_with fail
  go_ret
  exact retI rfl bw3
set_option maxRecDepth 100000 in
set_option maxHeartbeats 2000000 in
/-- turn.compare -/
theorem t_compare_gt (w : World) (b : Bool) (A : Option Addr) (n c : Nat) (D : Option Addr) (m e : Nat) (x : Bool) (t : TN) (k : Nat) (h : TK w b A n c D m e x t k) (b' : Bool) (A' : Option Addr) (n' c' : Nat) (D' : Option Addr) (m' e' : Nat) (x' : Bool) (t' : TN) (k' : Nat) (h' : TK w b' A' n' c' D' m' e' x' t' k') (h0 : 0 < k) (hk : k ≤ 1000000) (h0' : 0 < k') (hk' : k' ≤ 1000000) (hp : tpart t' < tpart t) :
    Calls Try.prog 41 #[.agg #[.bool b, .slice A n c, .slice D m e, .bool x], .agg #[.bool b', .slice A' n' c', .slice D' m' e', .bool x']] w (RetV w (.int .i64 1)) := by
  obtain ⟨s, hs⟩ : ∃ s, tpart t = s := ⟨_, rfl⟩
  obtain ⟨s', hs'⟩ : ∃ s, tpart t' = s := ⟨_, rfl⟩
  rw [hs, hs'] at hp
  have e1 : decide (s < s') = false := by simp; omega
  have e2 : decide (s' < s) = true := by simp; omega
  have HS := Lib.hid hs
  have HS' := Lib.hid hs'
  clear hs hs' hp
  go_enter Try.func41, Try.ntmps41
  go_wp2_with fail
  have p1 : Kp w ((w.alloc (.cells #[.bool b, .slice A n c, .slice D m e, .bool x] 26)).alloc (.cells #[.bool b', .slice A' n' c', .slice D' m' e', .bool x'] 26)) := (((Kp.refl w).alloc (.cells #[.bool b, .slice A n c, .slice D m e, .bool x] 26)).alloc (.cells #[.bool b', .slice A' n' c', .slice D' m' e', .bool x'] 26))
  have bw1 : Below w.heap.size w ((w.alloc (.cells #[.bool b, .slice A n c, .slice D m e, .bool x] 26)).alloc (.cells #[.bool b', .slice A' n' c', .slice D' m' e', .bool x'] 26)) := (((brefl w).alloc (by first | omega | (simp <;> omega)) (.cells #[.bool b, .slice A n c, .slice D m e, .bool x] 26)).alloc (by first | omega | (simp <;> omega)) (.cells #[.bool b', .slice A' n' c', .slice D' m' e', .bool x'] 26))
  have x1_0 : Blk ((w.alloc (.cells #[.bool b, .slice A n c, .slice D m e, .bool x] 26)).alloc (.cells #[.bool b', .slice A' n' c', .slice D' m' e', .bool x'] 26)) (w.heap.size) 26 #[.bool b, .slice A n c, .slice D m e, .bool x] := ((blkAt _ _ _ (by simp)).alloc (.cells #[.bool b', .slice A' n' c', .slice D' m' e', .bool x'] 26))
  have x1_1 : Blk ((w.alloc (.cells #[.bool b, .slice A n c, .slice D m e, .bool x] 26)).alloc (.cells #[.bool b', .slice A' n' c', .slice D' m' e', .bool x'] 26)) (w.heap.size + 1) 26 #[.bool b', .slice A' n' c', .slice D' m' e', .bool x'] := (blkAt _ _ _ (by simp))
  have lw1 : w.heap.size + 2 ≤ ((w.alloc (.cells #[.bool b, .slice A n c, .slice D m e, .bool x] 26)).alloc (.cells #[.bool b', .slice A' n' c', .slice D' m' e', .bool x'] 26)).heap.size := by simp
  generalize hE1 : ((w.alloc (.cells #[.bool b, .slice A n c, .slice D m e, .bool x] 26)).alloc (.cells #[.bool b', .slice A' n' c', .slice D' m' e', .bool x'] 26)) = w1 at p1 bw1 lw1 x1_0 x1_1 ⊢
  clear hE1
  replace h := h.keep p1
  replace h' := h'.keep p1
  have cx1_0_0 : w1.cell? ⟨w.heap.size, 0, none⟩ = some (.bool b) := x1_0.cell 0
  have cx1_0_1 : w1.cell? ⟨w.heap.size, 1, none⟩ = some (.slice A n c) := x1_0.cell 1
  have cx1_0_2 : w1.cell? ⟨w.heap.size, 2, none⟩ = some (.slice D m e) := x1_0.cell 2
  have cx1_0_3 : w1.cell? ⟨w.heap.size, 3, none⟩ = some (.bool x) := x1_0.cell 3
  have lx1_0_0 : w.heap.size < w1.heap.size := by have := x1_0.lt; omega
  have lx1_0_1 : w.heap.size < w1.heap.size + 1 := by have := x1_0.lt; omega
  have lx1_0_2 : w.heap.size < w1.heap.size + 2 := by have := x1_0.lt; omega
  have lx1_0_3 : w.heap.size < w1.heap.size + 3 := by have := x1_0.lt; omega
  have cx1_1_0 : w1.cell? ⟨w.heap.size + 1, 0, none⟩ = some (.bool b') := x1_1.cell 0
  have cx1_1_1 : w1.cell? ⟨w.heap.size + 1, 1, none⟩ = some (.slice A' n' c') := x1_1.cell 1
  have cx1_1_2 : w1.cell? ⟨w.heap.size + 1, 2, none⟩ = some (.slice D' m' e') := x1_1.cell 2
  have cx1_1_3 : w1.cell? ⟨w.heap.size + 1, 3, none⟩ = some (.bool x') := x1_1.cell 3
  have lx1_1_0 : w.heap.size + 1 < w1.heap.size := by have := x1_1.lt; omega
  have lx1_1_1 : w.heap.size < w1.heap.size := by have := x1_1.lt; omega
  have lx1_1_2 : w.heap.size < w1.heap.size + 1 := by have := x1_1.lt; omega
  have lx1_1_3 : w.heap.size < w1.heap.size + 2 := by have := x1_1.lt; omega
  go_region_held3 (fun w' => Sees w1.heap.size w1 w') (first | with_reducible exact Sees.of (Nat.le_refl _) (by assumption) | with_reducible exact Sees.of (Nat.le_refl _) (brefl _).drew | exact Sees.of (Nat.le_refl _) (below_drewN (brefl _) 1) | exact Sees.of (Nat.le_refl _) (below_drewN (by assumption) _))
    (first
      | (go_at_call 63; (with_reducible refine (t_part_e _ b A n c D m e x (t) (k) ?_ s ?_ ?_ ?_).mono ?_); (exact h); (exact HS.out); (first | omega | decide | assumption); (first | omega | decide | assumption); rintro e w2 ⟨rfl, hb2⟩; replace hb2 := bnext (below_drewN (brefl _) 1) hb2; have q2 : Below w1.heap.size w1 w2 := bnext (brefl w1) hb2; replace h := h.belw hb2; replace h' := h'.belw hb2)
      | (go_at_call 63; (with_reducible refine (t_part_e _ b' A' n' c' D' m' e' x' (t') (k') ?_ s' ?_ ?_ ?_).mono ?_); (exact h'); (exact HS'.out); (first | omega | decide | assumption); (first | omega | decide | assumption); rintro e w3 ⟨rfl, hb3⟩; have q3 : Below w1.heap.size w1 w3 := bnext q2 hb3; replace h := h.belw hb3; replace h' := h'.belw hb3))
  have bw3 : Below w.heap.size w w3 := bw1.trans (q3.mono bw1.size)
  clear cx1_0_0 cx1_0_1 cx1_0_2 cx1_0_3 lx1_0_0 lx1_0_1 lx1_0_2 lx1_0_3 cx1_1_0 cx1_1_1 cx1_1_2 cx1_1_3 lx1_1_0 lx1_1_1 lx1_1_2 lx1_1_3
  replace x1_0 : Blk w3 (w.heap.size) 26 #[.bool b, .slice A n c, .slice D m e, .bool x] := x1_0.below q3 x1_0.lt
  replace x1_1 : Blk w3 (w.heap.size + 1) 26 #[.bool b', .slice A' n' c', .slice D' m' e', .bool x'] := x1_1.below q3 x1_1.lt
  have lw3 : w1.heap.size ≤ w3.heap.size := q3.size
  go_wp2_with fail
  go_ret
  exact retI rfl bw3
set_option maxRecDepth 100000 in
set_option maxHeartbeats 2000000 in
/-- turn.compare -/
theorem t_compare_eq (w : World) (b : Bool) (A : Option Addr) (n c : Nat) (D : Option Addr) (m e : Nat) (x : Bool) (t : TN) (k : Nat) (h : TK w b A n c D m e x t k) (b' : Bool) (A' : Option Addr) (n' c' : Nat) (D' : Option Addr) (m' e' : Nat) (x' : Bool) (t' : TN) (k' : Nat) (h' : TK w b' A' n' c' D' m' e' x' t' k') (h0 : 0 < k) (hk : k ≤ 1000000) (h0' : 0 < k') (hk' : k' ≤ 1000000) (hp : tpart t = tpart t') :
    Calls Try.prog 41 #[.agg #[.bool b, .slice A n c, .slice D m e, .bool x], .agg #[.bool b', .slice A' n' c', .slice D' m' e', .bool x']] w (RetV w (.int .i64 (tcmp t t'))) := by
  obtain ⟨s, hs⟩ : ∃ s, tpart t = s := ⟨_, rfl⟩
  obtain ⟨s', hs'⟩ : ∃ s, tpart t' = s := ⟨_, rfl⟩
  have HR := Lib.hid (show cmpI (t.t.num * t'.t.den) (t'.t.num * t.t.den) = tcmp t t' by rw [cmpI_rcmp]; unfold tcmp; rw [if_neg (by omega), if_neg (by omega)])
  rw [hs, hs'] at hp
  have e1 : decide (s < s') = false := by simp; omega
  have e2 : decide (s' < s) = false := by simp; omega
  have HS := Lib.hid hs
  have HS' := Lib.hid hs'
  clear hs hs' hp
  go_enter Try.func41, Try.ntmps41
  go_wp2_with fail
  have p1 : Kp w ((w.alloc (.cells #[.bool b, .slice A n c, .slice D m e, .bool x] 26)).alloc (.cells #[.bool b', .slice A' n' c', .slice D' m' e', .bool x'] 26)) := (((Kp.refl w).alloc (.cells #[.bool b, .slice A n c, .slice D m e, .bool x] 26)).alloc (.cells #[.bool b', .slice A' n' c', .slice D' m' e', .bool x'] 26))
  have bw1 : Below w.heap.size w ((w.alloc (.cells #[.bool b, .slice A n c, .slice D m e, .bool x] 26)).alloc (.cells #[.bool b', .slice A' n' c', .slice D' m' e', .bool x'] 26)) := (((brefl w).alloc (by first | omega | (simp <;> omega)) (.cells #[.bool b, .slice A n c, .slice D m e, .bool x] 26)).alloc (by first | omega | (simp <;> omega)) (.cells #[.bool b', .slice A' n' c', .slice D' m' e', .bool x'] 26))
  have x1_0 : Blk ((w.alloc (.cells #[.bool b, .slice A n c, .slice D m e, .bool x] 26)).alloc (.cells #[.bool b', .slice A' n' c', .slice D' m' e', .bool x'] 26)) (w.heap.size) 26 #[.bool b, .slice A n c, .slice D m e, .bool x] := ((blkAt _ _ _ (by simp)).alloc (.cells #[.bool b', .slice A' n' c', .slice D' m' e', .bool x'] 26))
  have x1_1 : Blk ((w.alloc (.cells #[.bool b, .slice A n c, .slice D m e, .bool x] 26)).alloc (.cells #[.bool b', .slice A' n' c', .slice D' m' e', .bool x'] 26)) (w.heap.size + 1) 26 #[.bool b', .slice A' n' c', .slice D' m' e', .bool x'] := (blkAt _ _ _ (by simp))
  have lw1 : w.heap.size + 2 ≤ ((w.alloc (.cells #[.bool b, .slice A n c, .slice D m e, .bool x] 26)).alloc (.cells #[.bool b', .slice A' n' c', .slice D' m' e', .bool x'] 26)).heap.size := by simp
  generalize hE1 : ((w.alloc (.cells #[.bool b, .slice A n c, .slice D m e, .bool x] 26)).alloc (.cells #[.bool b', .slice A' n' c', .slice D' m' e', .bool x'] 26)) = w1 at p1 bw1 lw1 x1_0 x1_1 ⊢
  clear hE1
  replace h := h.keep p1
  replace h' := h'.keep p1
  have cx1_0_0 : w1.cell? ⟨w.heap.size, 0, none⟩ = some (.bool b) := x1_0.cell 0
  have cx1_0_1 : w1.cell? ⟨w.heap.size, 1, none⟩ = some (.slice A n c) := x1_0.cell 1
  have cx1_0_2 : w1.cell? ⟨w.heap.size, 2, none⟩ = some (.slice D m e) := x1_0.cell 2
  have cx1_0_3 : w1.cell? ⟨w.heap.size, 3, none⟩ = some (.bool x) := x1_0.cell 3
  have lx1_0_0 : w.heap.size < w1.heap.size := by have := x1_0.lt; omega
  have lx1_0_1 : w.heap.size < w1.heap.size + 1 := by have := x1_0.lt; omega
  have lx1_0_2 : w.heap.size < w1.heap.size + 2 := by have := x1_0.lt; omega
  have lx1_0_3 : w.heap.size < w1.heap.size + 3 := by have := x1_0.lt; omega
  have cx1_1_0 : w1.cell? ⟨w.heap.size + 1, 0, none⟩ = some (.bool b') := x1_1.cell 0
  have cx1_1_1 : w1.cell? ⟨w.heap.size + 1, 1, none⟩ = some (.slice A' n' c') := x1_1.cell 1
  have cx1_1_2 : w1.cell? ⟨w.heap.size + 1, 2, none⟩ = some (.slice D' m' e') := x1_1.cell 2
  have cx1_1_3 : w1.cell? ⟨w.heap.size + 1, 3, none⟩ = some (.bool x') := x1_1.cell 3
  have lx1_1_0 : w.heap.size + 1 < w1.heap.size := by have := x1_1.lt; omega
  have lx1_1_1 : w.heap.size < w1.heap.size := by have := x1_1.lt; omega
  have lx1_1_2 : w.heap.size < w1.heap.size + 1 := by have := x1_1.lt; omega
  have lx1_1_3 : w.heap.size < w1.heap.size + 2 := by have := x1_1.lt; omega
  go_region_held3 (fun w' => Sees w1.heap.size w1 w') (first | with_reducible exact Sees.of (Nat.le_refl _) (by assumption) | with_reducible exact Sees.of (Nat.le_refl _) (brefl _).drew | exact Sees.of (Nat.le_refl _) (below_drewN (brefl _) 1) | exact Sees.of (Nat.le_refl _) (below_drewN (by assumption) _))
    (first
      | (go_at_call 63; (with_reducible refine (t_part_e _ b A n c D m e x (t) (k) ?_ s ?_ ?_ ?_).mono ?_); (exact h); (exact HS.out); (first | omega | decide | assumption); (first | omega | decide | assumption); rintro e w2 ⟨rfl, hb2⟩; replace hb2 := bnext (below_drewN (brefl _) 1) hb2; have q2 : Below w1.heap.size w1 w2 := bnext (brefl w1) hb2; replace h := h.belw hb2; replace h' := h'.belw hb2)
      | (go_at_call 63; (with_reducible refine (t_part_e _ b' A' n' c' D' m' e' x' (t') (k') ?_ s' ?_ ?_ ?_).mono ?_); (exact h'); (exact HS'.out); (first | omega | decide | assumption); (first | omega | decide | assumption); rintro e w3 ⟨rfl, hb3⟩; have q3 : Below w1.heap.size w1 w3 := bnext q2 hb3; replace h := h.belw hb3; replace h' := h'.belw hb3))
  have bw3 : Below w.heap.size w w3 := bw1.trans (q3.mono bw1.size)
  clear cx1_0_0 cx1_0_1 cx1_0_2 cx1_0_3 lx1_0_0 lx1_0_1 lx1_0_2 lx1_0_3 cx1_1_0 cx1_1_1 cx1_1_2 cx1_1_3 lx1_1_0 lx1_1_1 lx1_1_2 lx1_1_3
  replace x1_0 : Blk w3 (w.heap.size) 26 #[.bool b, .slice A n c, .slice D m e, .bool x] := x1_0.below q3 x1_0.lt
  replace x1_1 : Blk w3 (w.heap.size + 1) 26 #[.bool b', .slice A' n' c', .slice D' m' e', .bool x'] := x1_1.below q3 x1_1.lt
  have lw3 : w1.heap.size ≤ w3.heap.size := q3.size
  have cx1_0_0 : w3.cell? ⟨w.heap.size, 0, none⟩ = some (.bool b) := x1_0.cell 0
  have cx1_0_1 : w3.cell? ⟨w.heap.size, 1, none⟩ = some (.slice A n c) := x1_0.cell 1
  have cx1_0_2 : w3.cell? ⟨w.heap.size, 2, none⟩ = some (.slice D m e) := x1_0.cell 2
  have cx1_0_3 : w3.cell? ⟨w.heap.size, 3, none⟩ = some (.bool x) := x1_0.cell 3
  have lx1_0_0 : w.heap.size < w3.heap.size := by have := x1_0.lt; omega
  have lx1_0_1 : w.heap.size < w3.heap.size + 1 := by have := x1_0.lt; omega
  have lx1_0_2 : w.heap.size < w3.heap.size + 2 := by have := x1_0.lt; omega
  have lx1_0_3 : w.heap.size < w3.heap.size + 3 := by have := x1_0.lt; omega
  have cx1_1_0 : w3.cell? ⟨w.heap.size + 1, 0, none⟩ = some (.bool b') := x1_1.cell 0
  have cx1_1_1 : w3.cell? ⟨w.heap.size + 1, 1, none⟩ = some (.slice A' n' c') := x1_1.cell 1
  have cx1_1_2 : w3.cell? ⟨w.heap.size + 1, 2, none⟩ = some (.slice D' m' e') := x1_1.cell 2
  have cx1_1_3 : w3.cell? ⟨w.heap.size + 1, 3, none⟩ = some (.bool x') := x1_1.cell 3
  have lx1_1_0 : w.heap.size + 1 < w3.heap.size := by have := x1_1.lt; omega
  have lx1_1_1 : w.heap.size < w3.heap.size := by have := x1_1.lt; omega
  have lx1_1_2 : w.heap.size < w3.heap.size + 1 := by have := x1_1.lt; omega
  have lx1_1_3 : w.heap.size < w3.heap.size + 2 := by have := x1_1.lt; omega
  go_wp2_with fail
  (with_reducible refine (f_cmp _ b A n c D m e ((t).t) (k) ?_ b' A' n' c' D' m' e' ((t').t) (k') ?_ ?_ ?_ ?_ ?_).mono ?_); (exact h.qz); (exact h'.qz); (first | omega | decide | assumption); (first | omega | decide | assumption); (first | omega | decide | assumption); (first | omega | decide | assumption); rintro e w4 ⟨rfl, hb4⟩
  clear cx1_0_0 cx1_0_1 cx1_0_2 cx1_0_3 lx1_0_0 lx1_0_1 lx1_0_2 lx1_0_3 cx1_1_0 cx1_1_1 cx1_1_2 cx1_1_3 lx1_1_0 lx1_1_1 lx1_1_2 lx1_1_3
  have q4 : Below w3.heap.size w3 w4 := hb4
  replace h := h.belw q4
  replace h' := h'.belw q4
  replace x1_0 : Blk w4 (w.heap.size) 26 #[.bool b, .slice A n c, .slice D m e, .bool x] := x1_0.below q4 x1_0.lt
  replace x1_1 : Blk w4 (w.heap.size + 1) 26 #[.bool b', .slice A' n' c', .slice D' m' e', .bool x'] := x1_1.below q4 x1_1.lt
  have bw4 : Below w.heap.size w w4 := bw3.trans (q4.mono bw3.size)
  have lw4 : w3.heap.size ≤ w4.heap.size := q4.size
  clear hb4 q4 bw3
  go_wp2_with fail
  go_ret
  exact retI HR.out bw4
theorem t_compare (w : World) (b : Bool) (A : Option Addr) (n c : Nat) (D : Option Addr) (m e : Nat) (x : Bool) (t : TN) (k : Nat) (h : TK w b A n c D m e x t k) (b' : Bool) (A' : Option Addr) (n' c' : Nat) (D' : Option Addr) (m' e' : Nat) (x' : Bool) (t' : TN) (k' : Nat) (h' : TK w b' A' n' c' D' m' e' x' t' k') (h0 : 0 < k) (hk : k ≤ 1000000) (h0' : 0 < k') (hk' : k' ≤ 1000000) : Calls Try.prog 41 #[.agg #[.bool b, .slice A n c, .slice D m e, .bool x], .agg #[.bool b', .slice A' n' c', .slice D' m' e', .bool x']] w (RetV w (.int .i64 (tcmp t t'))) := by
  rcases Int.lt_trichotomy (tpart t) (tpart t') with hp | hp | hp
  · have : tcmp t t' = -1 := by unfold tcmp; rw [if_pos hp]
    rw [this]; exact t_compare_lt w b A n c D m e x t k h b' A' n' c' D' m' e' x' t' k' h' h0 hk h0' hk' hp
  · exact t_compare_eq w b A n c D m e x t k h b' A' n' c' D' m' e' x' t' k' h' h0 hk h0' hk' hp
  · have : tcmp t t' = 1 := by unfold tcmp; rw [if_neg (by omega), if_pos hp]
    rw [this]; exact t_compare_gt w b A n c D m e x t k h b' A' n' c' D' m' e' x' t' k' h' h0 hk h0' hk' hp
end Go.Proofs.Ytmneloabphplmaa

/- Walks: comparison of turns that may be refused. -/
namespace Go.Proofs.Ytmneloabphplmaa
open Go Go.RowKit Bn
attribute [local go_sem ↓] Go.wp_at_zero Go.wp_at_succ
set_option maxRecDepth 100000 in
set_option maxHeartbeats 4000000 in
/-- turn.Cmp -/
theorem t_Cmp (w : World) (b : Bool) (A : Option Addr) (n c : Nat) (D : Option Addr) (m e : Nat) (x : Bool) (t : TN) (k : Nat) (h : TK w b A n c D m e x t k) (b' : Bool) (A' : Option Addr) (n' c' : Nat) (D' : Option Addr) (m' e' : Nat) (x' : Bool) (t' : TN) (k' : Nat) (h' : TK w b' A' n' c' D' m' e' x' t' k') (h0 : 0 < k) (hk : k ≤ 400000) (h0' : 0 < k') (hk' : k' ≤ 400000) :
    Calls Try.prog 20 #[.agg #[.bool b, .slice A n c, .slice D m e, .bool x], .agg #[.bool b', .slice A' n' c', .slice D' m' e', .bool x']] w (RetV w (.tuple #[.int .i64 (tcmp t t'), .nilIface])) := by
  go_enter Try.func20, Try.ntmps20
  go_wp2_with fail
  (with_reducible refine (t_checkAll _ (w.heap.size + 1 + 1) 2 ((k) + (k')) ?_ ?_ ?_ ?_).mono ?_); (exact ts2 (blkAt _ _ _ (by simp)) ((h.belw ((((Below.refl _ _).alloc (Nat.le_refl _) _).alloc (by simp) _).alloc (by simp <;> omega) _)).mono (by omega)) ((h'.belw ((((Below.refl _ _).alloc (Nat.le_refl _) _).alloc (by simp) _).alloc (by simp <;> omega) _)).mono (by omega))); (decide); (omega); (omega); rintro e w1 ⟨rfl, hb1⟩
  have q1 : Below w.heap.size w w1 := ((((Below.refl _ _).alloc (Nat.le_refl _) _).alloc (by simp) _).alloc (by simp <;> omega) _).trans (hb1.mono (by simp <;> omega))
  replace h := h.belw q1
  replace h' := h'.belw q1
  have x1_0 : Blk w1 (w.heap.size) 26 #[.bool b, .slice A n c, .slice D m e, .bool x] := (((blkAt _ _ _ (by simp)).alloc _).alloc _).below hb1 (by simp <;> omega)
  have x1_1 : Blk w1 (w.heap.size + 1) 26 #[.bool b', .slice A' n' c', .slice D' m' e', .bool x'] := ((blkAt _ _ _ (by simp)).alloc _).below hb1 (by simp <;> omega)
  have x1_2 : Blk w1 (w.heap.size + 1 + 1) 26 #[.bool b, .slice A n c, .slice D m e, .bool x, .bool b', .slice A' n' c', .slice D' m' e', .bool x'] := (blkAt _ _ _ (by simp)).below hb1 (by simp)
  have bw1 : Below w.heap.size w w1 := (brefl w).trans (q1.mono (brefl w).size)
  have lw1 : w.heap.size + 3 ≤ w1.heap.size := by have := hb1.size; simp at this; omega
  clear hb1 q1
  have cx1_0_0 : w1.cell? ⟨w.heap.size, 0, none⟩ = some (.bool b) := x1_0.cell 0
  have cx1_0_1 : w1.cell? ⟨w.heap.size, 1, none⟩ = some (.slice A n c) := x1_0.cell 1
  have cx1_0_2 : w1.cell? ⟨w.heap.size, 2, none⟩ = some (.slice D m e) := x1_0.cell 2
  have cx1_0_3 : w1.cell? ⟨w.heap.size, 3, none⟩ = some (.bool x) := x1_0.cell 3
  have lx1_0_0 : w.heap.size < w1.heap.size := by have := x1_0.lt; omega
  have lx1_0_1 : w.heap.size < w1.heap.size + 1 := by have := x1_0.lt; omega
  have lx1_0_2 : w.heap.size < w1.heap.size + 2 := by have := x1_0.lt; omega
  have lx1_0_3 : w.heap.size < w1.heap.size + 3 := by have := x1_0.lt; omega
  have cx1_1_0 : w1.cell? ⟨w.heap.size + 1, 0, none⟩ = some (.bool b') := x1_1.cell 0
  have cx1_1_1 : w1.cell? ⟨w.heap.size + 1, 1, none⟩ = some (.slice A' n' c') := x1_1.cell 1
  have cx1_1_2 : w1.cell? ⟨w.heap.size + 1, 2, none⟩ = some (.slice D' m' e') := x1_1.cell 2
  have cx1_1_3 : w1.cell? ⟨w.heap.size + 1, 3, none⟩ = some (.bool x') := x1_1.cell 3
  have lx1_1_0 : w.heap.size + 1 < w1.heap.size := by have := x1_1.lt; omega
  have lx1_1_1 : w.heap.size < w1.heap.size := by have := x1_1.lt; omega
  have lx1_1_2 : w.heap.size < w1.heap.size + 1 := by have := x1_1.lt; omega
  have lx1_1_3 : w.heap.size < w1.heap.size + 2 := by have := x1_1.lt; omega
  go_wp2_with fail
  (with_reducible refine (t_compare _ b A n c D m e x (t) (k) ?_ b' A' n' c' D' m' e' x' (t') (k') ?_ ?_ ?_ ?_ ?_).mono ?_); (exact h); (exact h'); (first | omega | decide | assumption); (first | omega | decide | assumption); (first | omega | decide | assumption); (first | omega | decide | assumption); rintro e w2 ⟨rfl, hb2⟩
  clear cx1_0_0 cx1_0_1 cx1_0_2 cx1_0_3 lx1_0_0 lx1_0_1 lx1_0_2 lx1_0_3 cx1_1_0 cx1_1_1 cx1_1_2 cx1_1_3 lx1_1_0 lx1_1_1 lx1_1_2 lx1_1_3
  have q2 : Below w1.heap.size w1 w2 := hb2
  replace h := h.belw q2
  replace h' := h'.belw q2
  replace x1_0 : Blk w2 (w.heap.size) 26 #[.bool b, .slice A n c, .slice D m e, .bool x] := x1_0.below q2 x1_0.lt
  replace x1_1 : Blk w2 (w.heap.size + 1) 26 #[.bool b', .slice A' n' c', .slice D' m' e', .bool x'] := x1_1.below q2 x1_1.lt
  replace x1_2 : Blk w2 (w.heap.size + 1 + 1) 26 #[.bool b, .slice A n c, .slice D m e, .bool x, .bool b', .slice A' n' c', .slice D' m' e', .bool x'] := x1_2.below q2 x1_2.lt
  have bw2 : Below w.heap.size w w2 := bw1.trans (q2.mono bw1.size)
  have lw2 : w1.heap.size ≤ w2.heap.size := q2.size
  clear hb2 q2 bw1
  go_wp2_with fail
  refine bodyPost_ret (v := .tuple #[.int .i64 (tcmp t t'), .nilIface]) (by simp [results, Try.results20, go_sem, *] <;> first | rfl | exact ⟨rfl, rfl⟩) rfl ?_
  exact ⟨rfl, bw2⟩
end Go.Proofs.Ytmneloabphplmaa

/- Walks: whether a turn lies inside. -/
namespace Go.Proofs.Ytmneloabphplmaa
open Go Go.RowKit Bn
attribute [local go_sem ↓] Go.wp_at_zero Go.wp_at_succ
theorem t_compare_e (w : World) (b : Bool) (A : Option Addr) (n c : Nat) (D : Option Addr) (m e : Nat) (x : Bool) (t : TN) (k : Nat) (h : TK w b A n c D m e x t k) (b' : Bool) (A' : Option Addr) (n' c' : Nat) (D' : Option Addr) (m' e' : Nat) (x' : Bool) (t' : TN) (k' : Nat) (h' : TK w b' A' n' c' D' m' e' x' t' k') (s : Int) (hs : tcmp t t' = s) (h0 : 0 < k) (hk : k ≤ 1000000) (h0' : 0 < k') (hk' : k' ≤ 1000000) : Calls Try.prog 41 #[.agg #[.bool b, .slice A n c, .slice D m e, .bool x], .agg #[.bool b', .slice A' n' c', .slice D' m' e', .bool x']] w (RetV w (.int .i64 s)) := by subst hs; exact t_compare w b A n c D m e x t k h b' A' n' c' D' m' e' x' t' k' h' h0 hk h0' hk'
set_option maxRecDepth 100000 in
set_option maxHeartbeats 4000000 in
/-- turn.Inside -/
theorem t_Inside_eq (w : World) (b : Bool) (A : Option Addr) (n c : Nat) (D : Option Addr) (m e : Nat) (x : Bool) (t : TN) (k : Nat) (h : TK w b A n c D m e x t k) (b' : Bool) (A' : Option Addr) (n' c' : Nat) (D' : Option Addr) (m' e' : Nat) (x' : Bool) (t' : TN) (k' : Nat) (h' : TK w b' A' n' c' D' m' e' x' t' k') (b'' : Bool) (A'' : Option Addr) (n'' c'' : Nat) (D'' : Option Addr) (m'' e'' : Nat) (x'' : Bool) (t'' : TN) (k'' : Nat) (h'' : TK w b'' A'' n'' c'' D'' m'' e'' x'' t'' k'') (h0 : 0 < k) (hk : k ≤ 200000) (h0' : 0 < k') (hk' : k' ≤ 200000) (h0'' : 0 < k'') (hk'' : k'' ≤ 200000) (hs : tcmp t t' = 0) :
    Calls Try.prog 22 #[.agg #[.bool b, .slice A n c, .slice D m e, .bool x], .agg #[.bool b', .slice A' n' c', .slice D' m' e', .bool x'], .agg #[.bool b'', .slice A'' n'' c'', .slice D'' m'' e'', .bool x'']] w (RetV w (.tuple #[.bool true, .nilIface])) := by
  have HS := Lib.hid hs
  clear hs
  go_enter Try.func22, Try.ntmps22
  go_wp2_with fail
  (with_reducible refine (t_checkAll _ (w.heap.size + 1 + 1 + 1) 3 ((k) + (k') + (k'')) ?_ ?_ ?_ ?_).mono ?_); (exact ts3 (blkAt _ _ _ (by simp)) ((h.belw (((((Below.refl _ _).alloc (Nat.le_refl _) _).alloc (by simp) _).alloc (by simp <;> omega) _).alloc (by simp <;> omega) _)).mono (by omega)) ((h'.belw (((((Below.refl _ _).alloc (Nat.le_refl _) _).alloc (by simp) _).alloc (by simp <;> omega) _).alloc (by simp <;> omega) _)).mono (by omega)) ((h''.belw (((((Below.refl _ _).alloc (Nat.le_refl _) _).alloc (by simp) _).alloc (by simp <;> omega) _).alloc (by simp <;> omega) _)).mono (by omega))); (decide); (omega); (omega); rintro e w1 ⟨rfl, hb1⟩
  have q1 : Below w.heap.size w w1 := (((((Below.refl _ _).alloc (Nat.le_refl _) _).alloc (by simp) _).alloc (by simp <;> omega) _).alloc (by simp <;> omega) _).trans (hb1.mono (by simp <;> omega))
  replace h := h.belw q1
  replace h' := h'.belw q1
  replace h'' := h''.belw q1
  have x1_0 : Blk w1 (w.heap.size) 26 #[.bool b, .slice A n c, .slice D m e, .bool x] := ((((blkAt _ _ _ (by simp)).alloc _).alloc _).alloc _).below hb1 (by simp <;> omega)
  have x1_1 : Blk w1 (w.heap.size + 1) 26 #[.bool b', .slice A' n' c', .slice D' m' e', .bool x'] := (((blkAt _ _ _ (by simp)).alloc _).alloc _).below hb1 (by simp <;> omega)
  have x1_2 : Blk w1 (w.heap.size + 1 + 1) 26 #[.bool b'', .slice A'' n'' c'', .slice D'' m'' e'', .bool x''] := ((blkAt _ _ _ (by simp)).alloc _).below hb1 (by simp <;> omega)
  have x1_3 : Blk w1 (w.heap.size + 1 + 1 + 1) 26 #[.bool b, .slice A n c, .slice D m e, .bool x, .bool b', .slice A' n' c', .slice D' m' e', .bool x', .bool b'', .slice A'' n'' c'', .slice D'' m'' e'', .bool x''] := (blkAt _ _ _ (by simp)).below hb1 (by simp)
  have bw1 : Below w.heap.size w w1 := (brefl w).trans (q1.mono (brefl w).size)
  have lw1 : w.heap.size + 4 ≤ w1.heap.size := by have := hb1.size; simp at this; omega
  clear hb1 q1
  have cx1_0_0 : w1.cell? ⟨w.heap.size, 0, none⟩ = some (.bool b) := x1_0.cell 0
  have cx1_0_1 : w1.cell? ⟨w.heap.size, 1, none⟩ = some (.slice A n c) := x1_0.cell 1
  have cx1_0_2 : w1.cell? ⟨w.heap.size, 2, none⟩ = some (.slice D m e) := x1_0.cell 2
  have cx1_0_3 : w1.cell? ⟨w.heap.size, 3, none⟩ = some (.bool x) := x1_0.cell 3
  have lx1_0_0 : w.heap.size < w1.heap.size := by have := x1_0.lt; omega
  have lx1_0_1 : w.heap.size < w1.heap.size + 1 := by have := x1_0.lt; omega
  have lx1_0_2 : w.heap.size < w1.heap.size + 2 := by have := x1_0.lt; omega
  have lx1_0_3 : w.heap.size < w1.heap.size + 3 := by have := x1_0.lt; omega
  have cx1_1_0 : w1.cell? ⟨w.heap.size + 1, 0, none⟩ = some (.bool b') := x1_1.cell 0
  have cx1_1_1 : w1.cell? ⟨w.heap.size + 1, 1, none⟩ = some (.slice A' n' c') := x1_1.cell 1
  have cx1_1_2 : w1.cell? ⟨w.heap.size + 1, 2, none⟩ = some (.slice D' m' e') := x1_1.cell 2
  have cx1_1_3 : w1.cell? ⟨w.heap.size + 1, 3, none⟩ = some (.bool x') := x1_1.cell 3
  have lx1_1_0 : w.heap.size + 1 < w1.heap.size := by have := x1_1.lt; omega
  have lx1_1_1 : w.heap.size < w1.heap.size := by have := x1_1.lt; omega
  have lx1_1_2 : w.heap.size < w1.heap.size + 1 := by have := x1_1.lt; omega
  have lx1_1_3 : w.heap.size < w1.heap.size + 2 := by have := x1_1.lt; omega
  go_wp2_with fail
  (with_reducible refine (t_compare_e _ b A n c D m e x (t) (k) ?_ b' A' n' c' D' m' e' x' (t') (k') ?_ (0) ?_ ?_ ?_ ?_ ?_).mono ?_); (exact h); (exact h'); (exact HS.out); (first | omega | decide | assumption); (first | omega | decide | assumption); (first | omega | decide | assumption); (first | omega | decide | assumption); rintro e w2 ⟨rfl, hb2⟩
  clear cx1_0_0 cx1_0_1 cx1_0_2 cx1_0_3 lx1_0_0 lx1_0_1 lx1_0_2 lx1_0_3 cx1_1_0 cx1_1_1 cx1_1_2 cx1_1_3 lx1_1_0 lx1_1_1 lx1_1_2 lx1_1_3
  have q2 : Below w1.heap.size w1 w2 := hb2
  replace h := h.belw q2
  replace h' := h'.belw q2
  replace h'' := h''.belw q2
  replace x1_0 : Blk w2 (w.heap.size) 26 #[.bool b, .slice A n c, .slice D m e, .bool x] := x1_0.below q2 x1_0.lt
  replace x1_1 : Blk w2 (w.heap.size + 1) 26 #[.bool b', .slice A' n' c', .slice D' m' e', .bool x'] := x1_1.below q2 x1_1.lt
  replace x1_2 : Blk w2 (w.heap.size + 1 + 1) 26 #[.bool b'', .slice A'' n'' c'', .slice D'' m'' e'', .bool x''] := x1_2.below q2 x1_2.lt
  replace x1_3 : Blk w2 (w.heap.size + 1 + 1 + 1) 26 #[.bool b, .slice A n c, .slice D m e, .bool x, .bool b', .slice A' n' c', .slice D' m' e', .bool x', .bool b'', .slice A'' n'' c'', .slice D'' m'' e'', .bool x''] := x1_3.below q2 x1_3.lt
  have bw2 : Below w.heap.size w w2 := bw1.trans (q2.mono bw1.size)
  have lw2 : w1.heap.size ≤ w2.heap.size := q2.size
  clear hb2 q2 bw1
  go_wp2_with fail
  refine bodyPost_ret (v := .tuple #[.bool true, .nilIface]) (by simp [results, Try.results22, go_sem, *] <;> first | rfl | exact ⟨rfl, rfl⟩) rfl ?_
  exact ⟨rfl, bw2⟩
set_option maxRecDepth 100000 in
set_option maxHeartbeats 4000000 in
/-- turn.Inside -/
theorem t_Inside_ne (w : World) (b : Bool) (A : Option Addr) (n c : Nat) (D : Option Addr) (m e : Nat) (x : Bool) (t : TN) (k : Nat) (h : TK w b A n c D m e x t k) (b' : Bool) (A' : Option Addr) (n' c' : Nat) (D' : Option Addr) (m' e' : Nat) (x' : Bool) (t' : TN) (k' : Nat) (h' : TK w b' A' n' c' D' m' e' x' t' k') (b'' : Bool) (A'' : Option Addr) (n'' c'' : Nat) (D'' : Option Addr) (m'' e'' : Nat) (x'' : Bool) (t'' : TN) (k'' : Nat) (h'' : TK w b'' A'' n'' c'' D'' m'' e'' x'' t'' k'') (h0 : 0 < k) (hk : k ≤ 200000) (h0' : 0 < k') (hk' : k' ≤ 200000) (h0'' : 0 < k'') (hk'' : k'' ≤ 200000) (s s1 : Int) (hs : tcmp t t' = s) (hn : s ≠ 0) (hs1 : tcmp (tadd t'' (tneg t)) (tadd t' (tneg t)) = s1) :
    Calls Try.prog 22 #[.agg #[.bool b, .slice A n c, .slice D m e, .bool x], .agg #[.bool b', .slice A' n' c', .slice D' m' e', .bool x'], .agg #[.bool b'', .slice A'' n'' c'', .slice D'' m'' e'', .bool x'']] w (RetV w (.tuple #[.bool (decide (s1 ≤ 0)), .nilIface])) := by
  have HS := Lib.hid hs
  have HS1 := Lib.hid hs1
  have e0 : ((s : Int) == 0) = false := by simp; exact hn
  clear hs hs1 hn
  go_enter Try.func22, Try.ntmps22
  go_wp2_with fail
  (with_reducible refine (t_checkAll _ (w.heap.size + 1 + 1 + 1) 3 ((k) + (k') + (k'')) ?_ ?_ ?_ ?_).mono ?_); (exact ts3 (blkAt _ _ _ (by simp)) ((h.belw (((((Below.refl _ _).alloc (Nat.le_refl _) _).alloc (by simp) _).alloc (by simp <;> omega) _).alloc (by simp <;> omega) _)).mono (by omega)) ((h'.belw (((((Below.refl _ _).alloc (Nat.le_refl _) _).alloc (by simp) _).alloc (by simp <;> omega) _).alloc (by simp <;> omega) _)).mono (by omega)) ((h''.belw (((((Below.refl _ _).alloc (Nat.le_refl _) _).alloc (by simp) _).alloc (by simp <;> omega) _).alloc (by simp <;> omega) _)).mono (by omega))); (decide); (omega); (omega); rintro e w1 ⟨rfl, hb1⟩
  have q1 : Below w.heap.size w w1 := (((((Below.refl _ _).alloc (Nat.le_refl _) _).alloc (by simp) _).alloc (by simp <;> omega) _).alloc (by simp <;> omega) _).trans (hb1.mono (by simp <;> omega))
  replace h := h.belw q1
  replace h' := h'.belw q1
  replace h'' := h''.belw q1
  have x1_0 : Blk w1 (w.heap.size) 26 #[.bool b, .slice A n c, .slice D m e, .bool x] := ((((blkAt _ _ _ (by simp)).alloc _).alloc _).alloc _).below hb1 (by simp <;> omega)
  have x1_1 : Blk w1 (w.heap.size + 1) 26 #[.bool b', .slice A' n' c', .slice D' m' e', .bool x'] := (((blkAt _ _ _ (by simp)).alloc _).alloc _).below hb1 (by simp <;> omega)
  have x1_2 : Blk w1 (w.heap.size + 1 + 1) 26 #[.bool b'', .slice A'' n'' c'', .slice D'' m'' e'', .bool x''] := ((blkAt _ _ _ (by simp)).alloc _).below hb1 (by simp <;> omega)
  have x1_3 : Blk w1 (w.heap.size + 1 + 1 + 1) 26 #[.bool b, .slice A n c, .slice D m e, .bool x, .bool b', .slice A' n' c', .slice D' m' e', .bool x', .bool b'', .slice A'' n'' c'', .slice D'' m'' e'', .bool x''] := (blkAt _ _ _ (by simp)).below hb1 (by simp)
  have bw1 : Below w.heap.size w w1 := (brefl w).trans (q1.mono (brefl w).size)
  have lw1 : w.heap.size + 4 ≤ w1.heap.size := by have := hb1.size; simp at this; omega
  clear hb1 q1
  have cx1_0_0 : w1.cell? ⟨w.heap.size, 0, none⟩ = some (.bool b) := x1_0.cell 0
  have cx1_0_1 : w1.cell? ⟨w.heap.size, 1, none⟩ = some (.slice A n c) := x1_0.cell 1
  have cx1_0_2 : w1.cell? ⟨w.heap.size, 2, none⟩ = some (.slice D m e) := x1_0.cell 2
  have cx1_0_3 : w1.cell? ⟨w.heap.size, 3, none⟩ = some (.bool x) := x1_0.cell 3
  have lx1_0_0 : w.heap.size < w1.heap.size := by have := x1_0.lt; omega
  have lx1_0_1 : w.heap.size < w1.heap.size + 1 := by have := x1_0.lt; omega
  have lx1_0_2 : w.heap.size < w1.heap.size + 2 := by have := x1_0.lt; omega
  have lx1_0_3 : w.heap.size < w1.heap.size + 3 := by have := x1_0.lt; omega
  have cx1_1_0 : w1.cell? ⟨w.heap.size + 1, 0, none⟩ = some (.bool b') := x1_1.cell 0
  have cx1_1_1 : w1.cell? ⟨w.heap.size + 1, 1, none⟩ = some (.slice A' n' c') := x1_1.cell 1
  have cx1_1_2 : w1.cell? ⟨w.heap.size + 1, 2, none⟩ = some (.slice D' m' e') := x1_1.cell 2
  have cx1_1_3 : w1.cell? ⟨w.heap.size + 1, 3, none⟩ = some (.bool x') := x1_1.cell 3
  have lx1_1_0 : w.heap.size + 1 < w1.heap.size := by have := x1_1.lt; omega
  have lx1_1_1 : w.heap.size < w1.heap.size := by have := x1_1.lt; omega
  have lx1_1_2 : w.heap.size < w1.heap.size + 1 := by have := x1_1.lt; omega
  have lx1_1_3 : w.heap.size < w1.heap.size + 2 := by have := x1_1.lt; omega
  go_wp2_with fail
  (with_reducible refine (t_compare_e _ b A n c D m e x (t) (k) ?_ b' A' n' c' D' m' e' x' (t') (k') ?_ (s) ?_ ?_ ?_ ?_ ?_).mono ?_); (exact h); (exact h'); (exact HS.out); (first | omega | decide | assumption); (first | omega | decide | assumption); (first | omega | decide | assumption); (first | omega | decide | assumption); rintro e w2 ⟨rfl, hb2⟩
  clear cx1_0_0 cx1_0_1 cx1_0_2 cx1_0_3 lx1_0_0 lx1_0_1 lx1_0_2 lx1_0_3 cx1_1_0 cx1_1_1 cx1_1_2 cx1_1_3 lx1_1_0 lx1_1_1 lx1_1_2 lx1_1_3
  have q2 : Below w1.heap.size w1 w2 := hb2
  replace h := h.belw q2
  replace h' := h'.belw q2
  replace h'' := h''.belw q2
  replace x1_0 : Blk w2 (w.heap.size) 26 #[.bool b, .slice A n c, .slice D m e, .bool x] := x1_0.below q2 x1_0.lt
  replace x1_1 : Blk w2 (w.heap.size + 1) 26 #[.bool b', .slice A' n' c', .slice D' m' e', .bool x'] := x1_1.below q2 x1_1.lt
  replace x1_2 : Blk w2 (w.heap.size + 1 + 1) 26 #[.bool b'', .slice A'' n'' c'', .slice D'' m'' e'', .bool x''] := x1_2.below q2 x1_2.lt
  replace x1_3 : Blk w2 (w.heap.size + 1 + 1 + 1) 26 #[.bool b, .slice A n c, .slice D m e, .bool x, .bool b', .slice A' n' c', .slice D' m' e', .bool x', .bool b'', .slice A'' n'' c'', .slice D'' m'' e'', .bool x''] := x1_3.below q2 x1_3.lt
  have bw2 : Below w.heap.size w w2 := bw1.trans (q2.mono bw1.size)
  have lw2 : w1.heap.size ≤ w2.heap.size := q2.size
  clear hb2 q2 bw1
  have cx1_0_0 : w2.cell? ⟨w.heap.size, 0, none⟩ = some (.bool b) := x1_0.cell 0
  have cx1_0_1 : w2.cell? ⟨w.heap.size, 1, none⟩ = some (.slice A n c) := x1_0.cell 1
  have cx1_0_2 : w2.cell? ⟨w.heap.size, 2, none⟩ = some (.slice D m e) := x1_0.cell 2
  have cx1_0_3 : w2.cell? ⟨w.heap.size, 3, none⟩ = some (.bool x) := x1_0.cell 3
  have lx1_0_0 : w.heap.size < w2.heap.size := by have := x1_0.lt; omega
  have lx1_0_1 : w.heap.size < w2.heap.size + 1 := by have := x1_0.lt; omega
  have lx1_0_2 : w.heap.size < w2.heap.size + 2 := by have := x1_0.lt; omega
  have lx1_0_3 : w.heap.size < w2.heap.size + 3 := by have := x1_0.lt; omega
  go_wp2_with fail
  (with_reducible refine (t_neg _ b A n c D m e x (t) (k) ?_ ?_ ?_).mono ?_); (exact h); (first | omega | decide | assumption); (first | omega | decide | assumption); rintro e w3 ⟨b3, A3, n3, c3, A'3, n'3, c'3, x3, rfl, h3, hb3⟩
  clear cx1_0_0 cx1_0_1 cx1_0_2 cx1_0_3 lx1_0_0 lx1_0_1 lx1_0_2 lx1_0_3
  have q3 : Below w2.heap.size w2 w3 := hb3
  replace h := h.belw q3
  replace h' := h'.belw q3
  replace h'' := h''.belw q3
  replace x1_0 : Blk w3 (w.heap.size) 26 #[.bool b, .slice A n c, .slice D m e, .bool x] := x1_0.below q3 x1_0.lt
  replace x1_1 : Blk w3 (w.heap.size + 1) 26 #[.bool b', .slice A' n' c', .slice D' m' e', .bool x'] := x1_1.below q3 x1_1.lt
  replace x1_2 : Blk w3 (w.heap.size + 1 + 1) 26 #[.bool b'', .slice A'' n'' c'', .slice D'' m'' e'', .bool x''] := x1_2.below q3 x1_2.lt
  replace x1_3 : Blk w3 (w.heap.size + 1 + 1 + 1) 26 #[.bool b, .slice A n c, .slice D m e, .bool x, .bool b', .slice A' n' c', .slice D' m' e', .bool x', .bool b'', .slice A'' n'' c'', .slice D'' m'' e'', .bool x''] := x1_3.below q3 x1_3.lt
  have bw3 : Below w.heap.size w w3 := bw2.trans (q3.mono bw2.size)
  have lw3 : w2.heap.size ≤ w3.heap.size := q3.size
  clear hb3 q3 bw2
  go_wp2_with fail
  have p4 : Kp w3 (w3.alloc (.cells #[.bool b3, .slice A3 n3 c3, .slice A'3 n'3 c'3, .bool x3] 26)) := ((Kp.refl w3).alloc (.cells #[.bool b3, .slice A3 n3 c3, .slice A'3 n'3 c'3, .bool x3] 26))
  have bw4 : Below w.heap.size w (w3.alloc (.cells #[.bool b3, .slice A3 n3 c3, .slice A'3 n'3 c'3, .bool x3] 26)) := (bw3.alloc (by first | omega | (simp <;> omega)) (.cells #[.bool b3, .slice A3 n3 c3, .slice A'3 n'3 c'3, .bool x3] 26))
  have x4_0 : Blk (w3.alloc (.cells #[.bool b3, .slice A3 n3 c3, .slice A'3 n'3 c'3, .bool x3] 26)) (w3.heap.size) 26 #[.bool b3, .slice A3 n3 c3, .slice A'3 n'3 c'3, .bool x3] := (blkAt _ _ _ (by simp))
  replace x1_0 : Blk (w3.alloc (.cells #[.bool b3, .slice A3 n3 c3, .slice A'3 n'3 c'3, .bool x3] 26)) (w.heap.size) 26 #[.bool b, .slice A n c, .slice D m e, .bool x] := (x1_0.alloc (.cells #[.bool b3, .slice A3 n3 c3, .slice A'3 n'3 c'3, .bool x3] 26))
  replace x1_1 : Blk (w3.alloc (.cells #[.bool b3, .slice A3 n3 c3, .slice A'3 n'3 c'3, .bool x3] 26)) (w.heap.size + 1) 26 #[.bool b', .slice A' n' c', .slice D' m' e', .bool x'] := (x1_1.alloc (.cells #[.bool b3, .slice A3 n3 c3, .slice A'3 n'3 c'3, .bool x3] 26))
  replace x1_2 : Blk (w3.alloc (.cells #[.bool b3, .slice A3 n3 c3, .slice A'3 n'3 c'3, .bool x3] 26)) (w.heap.size + 1 + 1) 26 #[.bool b'', .slice A'' n'' c'', .slice D'' m'' e'', .bool x''] := (x1_2.alloc (.cells #[.bool b3, .slice A3 n3 c3, .slice A'3 n'3 c'3, .bool x3] 26))
  replace x1_3 : Blk (w3.alloc (.cells #[.bool b3, .slice A3 n3 c3, .slice A'3 n'3 c'3, .bool x3] 26)) (w.heap.size + 1 + 1 + 1) 26 #[.bool b, .slice A n c, .slice D m e, .bool x, .bool b', .slice A' n' c', .slice D' m' e', .bool x', .bool b'', .slice A'' n'' c'', .slice D'' m'' e'', .bool x''] := (x1_3.alloc (.cells #[.bool b3, .slice A3 n3 c3, .slice A'3 n'3 c'3, .bool x3] 26))
  have lw4 : w3.heap.size + 1 ≤ (w3.alloc (.cells #[.bool b3, .slice A3 n3 c3, .slice A'3 n'3 c'3, .bool x3] 26)).heap.size := by simp
  generalize hE4 : (w3.alloc (.cells #[.bool b3, .slice A3 n3 c3, .slice A'3 n'3 c'3, .bool x3] 26)) = w4 at p4 bw4 lw4 x4_0 x1_0 x1_1 x1_2 x1_3 ⊢
  clear hE4
  replace h := h.keep p4
  replace h' := h'.keep p4
  replace h'' := h''.keep p4
  replace h3 := h3.keep p4
  clear bw3
  have lx1_0_0 : w.heap.size < w4.heap.size := by have := x1_0.lt; omega
  have lx1_0_1 : w.heap.size < w4.heap.size + 1 := by have := x1_0.lt; omega
  have lx1_0_2 : w.heap.size < w4.heap.size + 2 := by have := x1_0.lt; omega
  have lx1_0_3 : w.heap.size < w4.heap.size + 3 := by have := x1_0.lt; omega
  have cx1_1_0 : w4.cell? ⟨w.heap.size + 1, 0, none⟩ = some (.bool b') := x1_1.cell 0
  have cx1_1_1 : w4.cell? ⟨w.heap.size + 1, 1, none⟩ = some (.slice A' n' c') := x1_1.cell 1
  have cx1_1_2 : w4.cell? ⟨w.heap.size + 1, 2, none⟩ = some (.slice D' m' e') := x1_1.cell 2
  have cx1_1_3 : w4.cell? ⟨w.heap.size + 1, 3, none⟩ = some (.bool x') := x1_1.cell 3
  have lx1_1_0 : w.heap.size + 1 < w4.heap.size := by have := x1_1.lt; omega
  have lx1_1_1 : w.heap.size < w4.heap.size := by have := x1_1.lt; omega
  have lx1_1_2 : w.heap.size < w4.heap.size + 1 := by have := x1_1.lt; omega
  have lx1_1_3 : w.heap.size < w4.heap.size + 2 := by have := x1_1.lt; omega
  have cx1_2_0 : w4.cell? ⟨w.heap.size + 1 + 1, 0, none⟩ = some (.bool b'') := x1_2.cell 0
  have cx1_2_1 : w4.cell? ⟨w.heap.size + 1 + 1, 1, none⟩ = some (.slice A'' n'' c'') := x1_2.cell 1
  have cx1_2_2 : w4.cell? ⟨w.heap.size + 1 + 1, 2, none⟩ = some (.slice D'' m'' e'') := x1_2.cell 2
  have cx1_2_3 : w4.cell? ⟨w.heap.size + 1 + 1, 3, none⟩ = some (.bool x'') := x1_2.cell 3
  have lx1_2_0 : w.heap.size + 2 < w4.heap.size := by have := x1_2.lt; omega
  have lx1_2_1 : w.heap.size + 1 < w4.heap.size := by have := x1_2.lt; omega
  have lx1_2_2 : w.heap.size < w4.heap.size := by have := x1_2.lt; omega
  have lx1_2_3 : w.heap.size < w4.heap.size + 1 := by have := x1_2.lt; omega
  have lx1_3_0 : w.heap.size + 3 < w4.heap.size := by have := x1_3.lt; omega
  have lx1_3_1 : w.heap.size + 2 < w4.heap.size := by have := x1_3.lt; omega
  have lx1_3_2 : w.heap.size + 1 < w4.heap.size := by have := x1_3.lt; omega
  have lx1_3_3 : w.heap.size < w4.heap.size := by have := x1_3.lt; omega
  have cx4_0_0 : w4.cell? ⟨w3.heap.size, 0, none⟩ = some (.bool b3) := x4_0.cell 0
  have cx4_0_1 : w4.cell? ⟨w3.heap.size, 1, none⟩ = some (.slice A3 n3 c3) := x4_0.cell 1
  have cx4_0_2 : w4.cell? ⟨w3.heap.size, 2, none⟩ = some (.slice A'3 n'3 c'3) := x4_0.cell 2
  have cx4_0_3 : w4.cell? ⟨w3.heap.size, 3, none⟩ = some (.bool x3) := x4_0.cell 3
  have lx4_0_0 : w3.heap.size < w4.heap.size := by have := x4_0.lt; omega
  have lx4_0_1 : w3.heap.size < w4.heap.size + 1 := by have := x4_0.lt; omega
  have lx4_0_2 : w3.heap.size < w4.heap.size + 2 := by have := x4_0.lt; omega
  have lx4_0_3 : w3.heap.size < w4.heap.size + 3 := by have := x4_0.lt; omega
  go_region_held3 (fun w' => Sees w4.heap.size w4 w') (first | with_reducible exact Sees.of (Nat.le_refl _) (by assumption) | with_reducible exact Sees.of (Nat.le_refl _) (brefl _).drew | exact Sees.of (Nat.le_refl _) (below_drewN (brefl _) 1) | exact Sees.of (Nat.le_refl _) (below_drewN (by assumption) _))
    (first
      | (go_at_call 27; (with_reducible refine (t_add _ b'' A'' n'' c'' D'' m'' e'' x'' (t'') (k'') ?_ b3 A3 n3 c3 A'3 n'3 c'3 x3 (tneg (t)) ((k)) ?_ ?_ ?_ ?_ ?_).mono ?_); (exact h''); (exact h3.tk); (first | omega | decide | assumption); (first | omega | decide | assumption); (first | omega | decide | assumption); (first | omega | decide | assumption); rintro e w5 ⟨b5, A5, n5, c5, A'5, n'5, c'5, x5, rfl, h5, hb5⟩; replace hb5 := bnext (below_drewN (brefl _) 1) hb5; have q5 : Below w4.heap.size w4 w5 := bnext (brefl w4) hb5; replace h := h.belw hb5; replace h' := h'.belw hb5; replace h'' := h''.belw hb5; replace h3 := h3.belw hb5)
      | (go_at_call 27; (with_reducible refine (t_add _ b' A' n' c' D' m' e' x' (t') (k') ?_ b3 A3 n3 c3 A'3 n'3 c'3 x3 (tneg (t)) ((k)) ?_ ?_ ?_ ?_ ?_).mono ?_); (exact h'); (exact h3.tk); (first | omega | decide | assumption); (first | omega | decide | assumption); (first | omega | decide | assumption); (first | omega | decide | assumption); rintro e w6 ⟨b6, A6, n6, c6, A'6, n'6, c'6, x6, rfl, h6, hb6⟩; have q6 : Below w4.heap.size w4 w6 := bnext q5 hb6; replace h := h.belw hb6; replace h' := h'.belw hb6; replace h'' := h''.belw hb6; replace h3 := h3.belw hb6; replace h5 := h5.belw hb6)
      | (go_at_call 41; (with_reducible refine (t_compare_e _ b5 A5 n5 c5 A'5 n'5 c'5 x5 (tadd ((t'')) ((tneg (t)))) (2 * (k'') + 2 * ((k)) + 3) ?_ b6 A6 n6 c6 A'6 n'6 c'6 x6 (tadd ((t')) ((tneg (t)))) (2 * (k') + 2 * ((k)) + 3) ?_ (s1) ?_ ?_ ?_ ?_ ?_).mono ?_); (exact h5.tk); (exact h6.tk); (exact HS1.out); (first | omega | decide | assumption); (first | omega | decide | assumption); (first | omega | decide | assumption); (first | omega | decide | assumption); rintro e w7 ⟨rfl, hb7⟩; have q7 : Below w4.heap.size w4 w7 := bnext q6 hb7; replace h := h.belw hb7; replace h' := h'.belw hb7; replace h'' := h''.belw hb7; replace h3 := h3.belw hb7; replace h5 := h5.belw hb7; replace h6 := h6.belw hb7))
  have bw7 : Below w.heap.size w w7 := bw4.trans (q7.mono bw4.size)
  clear lx1_0_0 lx1_0_1 lx1_0_2 lx1_0_3 cx1_1_0 cx1_1_1 cx1_1_2 cx1_1_3 lx1_1_0 lx1_1_1 lx1_1_2 lx1_1_3 cx1_2_0 cx1_2_1 cx1_2_2 cx1_2_3 lx1_2_0 lx1_2_1 lx1_2_2 lx1_2_3 lx1_3_0 lx1_3_1 lx1_3_2 lx1_3_3 cx4_0_0 cx4_0_1 cx4_0_2 cx4_0_3 lx4_0_0 lx4_0_1 lx4_0_2 lx4_0_3
  replace x1_0 : Blk w7 (w.heap.size) 26 #[.bool b, .slice A n c, .slice D m e, .bool x] := x1_0.below q7 x1_0.lt
  replace x1_1 : Blk w7 (w.heap.size + 1) 26 #[.bool b', .slice A' n' c', .slice D' m' e', .bool x'] := x1_1.below q7 x1_1.lt
  replace x1_2 : Blk w7 (w.heap.size + 1 + 1) 26 #[.bool b'', .slice A'' n'' c'', .slice D'' m'' e'', .bool x''] := x1_2.below q7 x1_2.lt
  replace x1_3 : Blk w7 (w.heap.size + 1 + 1 + 1) 26 #[.bool b, .slice A n c, .slice D m e, .bool x, .bool b', .slice A' n' c', .slice D' m' e', .bool x', .bool b'', .slice A'' n'' c'', .slice D'' m'' e'', .bool x''] := x1_3.below q7 x1_3.lt
  replace x4_0 : Blk w7 (w3.heap.size) 26 #[.bool b3, .slice A3 n3 c3, .slice A'3 n'3 c'3, .bool x3] := x4_0.below q7 x4_0.lt
  have lw7 : w4.heap.size ≤ w7.heap.size := q7.size
  go_wp2_with fail
  refine bodyPost_ret (v := .tuple #[.bool (decide (s1 ≤ 0)), .nilIface]) (by simp [results, Try.results22, go_sem, *] <;> first | rfl | exact ⟨rfl, rfl⟩) rfl ?_
  exact ⟨rfl, bw7⟩
theorem t_Inside (w : World) (b : Bool) (A : Option Addr) (n c : Nat) (D : Option Addr) (m e : Nat) (x : Bool) (t : TN) (k : Nat) (h : TK w b A n c D m e x t k) (b' : Bool) (A' : Option Addr) (n' c' : Nat) (D' : Option Addr) (m' e' : Nat) (x' : Bool) (t' : TN) (k' : Nat) (h' : TK w b' A' n' c' D' m' e' x' t' k') (b'' : Bool) (A'' : Option Addr) (n'' c'' : Nat) (D'' : Option Addr) (m'' e'' : Nat) (x'' : Bool) (t'' : TN) (k'' : Nat) (h'' : TK w b'' A'' n'' c'' D'' m'' e'' x'' t'' k'') (h0 : 0 < k) (hk : k ≤ 200000) (h0' : 0 < k') (hk' : k' ≤ 200000) (h0'' : 0 < k'') (hk'' : k'' ≤ 200000) : Calls Try.prog 22 #[.agg #[.bool b, .slice A n c, .slice D m e, .bool x], .agg #[.bool b', .slice A' n' c', .slice D' m' e', .bool x'], .agg #[.bool b'', .slice A'' n'' c'', .slice D'' m'' e'', .bool x'']] w (RetV w (.tuple #[.bool (tinside t t' t''), .nilIface])) := by
  unfold tinside
  by_cases hs : tcmp t t' = 0
  · rw [if_pos hs]; exact t_Inside_eq w b A n c D m e x t k h b' A' n' c' D' m' e' x' t' k' h' b'' A'' n'' c'' D'' m'' e'' x'' t'' k'' h'' h0 hk h0' hk' h0'' hk'' hs
  · rw [if_neg hs]; exact t_Inside_ne w b A n c D m e x t k h b' A' n' c' D' m' e' x' t' k' h' b'' A'' n'' c'' D'' m'' e'' x'' t'' k'' h'' h0 hk h0' hk' h0'' hk'' _ _ rfl hs rfl
end Go.Proofs.Ytmneloabphplmaa

/- Walks: a turn between two. -/
namespace Go.Proofs.Ytmneloabphplmaa
open Go Go.RowKit Bn
attribute [local go_sem ↓] Go.wp_at_zero Go.wp_at_succ
set_option maxRecDepth 100000 in
set_option maxHeartbeats 4000000 in
/-- turn.Between -/
theorem t_Between_h (w : World) (b : Bool) (A : Option Addr) (n c : Nat) (D : Option Addr) (m e : Nat) (x : Bool) (t : TN) (k : Nat) (h : TK w b A n c D m e x t k) (b' : Bool) (A' : Option Addr) (n' c' : Nat) (D' : Option Addr) (m' e' : Nat) (x' : Bool) (t' : TN) (k' : Nat) (h' : TK w b' A' n' c' D' m' e' x' t' k') (h0 : 0 < k) (hk : k ≤ 50000) (h0' : 0 < k') (hk' : k' ≤ 50000) (hh : (tadd t' (tneg t)).h = true) :
    Calls Try.prog 21 #[.agg #[.bool b, .slice A n c, .slice D m e, .bool x], .agg #[.bool b', .slice A' n' c', .slice D' m' e', .bool x']] w (RetTe w .nilIface (tbetween t t') (6 * k + 4 * k' + 20)) := by
  have HT := Lib.hid (show tbetween t t' = tadd t ⟨1, false⟩ by unfold tbetween; rw [if_pos hh])
  have HH := Lib.hid hh
  clear hh
  go_enter Try.func21, Try.ntmps21
  go_wp2_with fail
  (with_reducible refine (t_checkAll _ (w.heap.size + 1 + 1 + 1) 2 ((k) + (k')) ?_ ?_ ?_ ?_).mono ?_); (exact ts2 (blkAt _ _ _ (by simp)) ((h.belw (((((Below.refl _ _).alloc (Nat.le_refl _) _).alloc (by simp) _).alloc (by simp <;> omega) _).alloc (by simp <;> omega) _)).mono (by omega)) ((h'.belw (((((Below.refl _ _).alloc (Nat.le_refl _) _).alloc (by simp) _).alloc (by simp <;> omega) _).alloc (by simp <;> omega) _)).mono (by omega))); (decide); (omega); (omega); rintro e w1 ⟨rfl, hb1⟩
  have q1 : Below w.heap.size w w1 := (((((Below.refl _ _).alloc (Nat.le_refl _) _).alloc (by simp) _).alloc (by simp <;> omega) _).alloc (by simp <;> omega) _).trans (hb1.mono (by simp <;> omega))
  replace h := h.belw q1
  replace h' := h'.belw q1
  have x1_0 : Blk w1 (w.heap.size) 26 #[.bool b, .slice A n c, .slice D m e, .bool x] := ((((blkAt _ _ _ (by simp)).alloc _).alloc _).alloc _).below hb1 (by simp <;> omega)
  have x1_1 : Blk w1 (w.heap.size + 1) 26 #[.bool b', .slice A' n' c', .slice D' m' e', .bool x'] := (((blkAt _ _ _ (by simp)).alloc _).alloc _).below hb1 (by simp <;> omega)
  have x1_2 : Blk w1 (w.heap.size + 1 + 1) 26 #[.bool false, .slice none 0 0, .slice none 0 0, .bool false] := ((blkAt _ _ _ (by simp)).alloc _).below hb1 (by simp <;> omega)
  have x1_3 : Blk w1 (w.heap.size + 1 + 1 + 1) 26 #[.bool b, .slice A n c, .slice D m e, .bool x, .bool b', .slice A' n' c', .slice D' m' e', .bool x'] := (blkAt _ _ _ (by simp)).below hb1 (by simp)
  have bw1 : Below w.heap.size w w1 := (brefl w).trans (q1.mono (brefl w).size)
  have lw1 : w.heap.size + 4 ≤ w1.heap.size := by have := hb1.size; simp at this; omega
  clear hb1 q1
  have cx1_0_0 : w1.cell? ⟨w.heap.size, 0, none⟩ = some (.bool b) := x1_0.cell 0
  have cx1_0_1 : w1.cell? ⟨w.heap.size, 1, none⟩ = some (.slice A n c) := x1_0.cell 1
  have cx1_0_2 : w1.cell? ⟨w.heap.size, 2, none⟩ = some (.slice D m e) := x1_0.cell 2
  have cx1_0_3 : w1.cell? ⟨w.heap.size, 3, none⟩ = some (.bool x) := x1_0.cell 3
  have lx1_0_0 : w.heap.size < w1.heap.size := by have := x1_0.lt; omega
  have lx1_0_1 : w.heap.size < w1.heap.size + 1 := by have := x1_0.lt; omega
  have lx1_0_2 : w.heap.size < w1.heap.size + 2 := by have := x1_0.lt; omega
  have lx1_0_3 : w.heap.size < w1.heap.size + 3 := by have := x1_0.lt; omega
  have cx1_1_0 : w1.cell? ⟨w.heap.size + 1, 0, none⟩ = some (.bool b') := x1_1.cell 0
  have cx1_1_1 : w1.cell? ⟨w.heap.size + 1, 1, none⟩ = some (.slice A' n' c') := x1_1.cell 1
  have cx1_1_2 : w1.cell? ⟨w.heap.size + 1, 2, none⟩ = some (.slice D' m' e') := x1_1.cell 2
  have cx1_1_3 : w1.cell? ⟨w.heap.size + 1, 3, none⟩ = some (.bool x') := x1_1.cell 3
  have lx1_1_0 : w.heap.size + 1 < w1.heap.size := by have := x1_1.lt; omega
  have lx1_1_1 : w.heap.size < w1.heap.size := by have := x1_1.lt; omega
  have lx1_1_2 : w.heap.size < w1.heap.size + 1 := by have := x1_1.lt; omega
  have lx1_1_3 : w.heap.size < w1.heap.size + 2 := by have := x1_1.lt; omega
  go_wp2_with fail
  refine wp_region_lin (B := w.heap.size) (fr := fun xf => ⟨List.toArray (.agg #[.bool b, .slice A n c, .slice D m e, .bool x] :: .agg #[.bool b', .slice A' n' c', .slice D' m' e', .bool x'] :: .pointer (some ⟨w.heap.size, 0, none⟩) :: .pointer (some ⟨w.heap.size + 1, 0, none⟩) :: .pointer (some ⟨w.heap.size + 1 + 1, 0, none⟩) :: .nilIface :: .nilIface :: xf 4 :: undef :: .agg #[.bool b, .slice A n c, .slice D m e, .bool x] :: .agg #[.bool b', .slice A' n' c', .slice D' m' e', .bool x'] :: .slice (some ⟨w.heap.size + 1 + 1 + 1, 0, none⟩) 2 2 :: .nilIface :: .nilIface :: .bool false :: undef :: undef :: xf 0 :: xf 1 :: xf 2 :: xf 3 :: undef :: undef :: undef :: undef :: undef :: undef :: undef :: undef :: undef :: undef :: undef :: undef :: undef :: undef :: undef :: undef :: undef :: undef :: undef :: []), []⟩) (R := fun i => List.getD ((PEq (.agg #[.bool b', .slice A' n' c', .slice D' m' e', .bool x'])) :: (PEq (.agg #[.bool b, .slice A n c, .slice D m e, .bool x])) :: (VT (tneg ((t))) ((k))) :: (VT (tadd ((t')) ((tneg ((t))))) (2 * ((k')) + 2 * (((k))) + 3)) :: PAny :: PAny :: []) i (fun _ _ => True)) (es := [⟨4, 5, 26, #[.bool false, .slice none 0 0, .slice none 0 0, .bool false], CT (tadd ((t')) ((tneg ((t))))) (2 * ((k')) + 2 * (((k))) + 3)⟩]) (ow := [⟨w.heap.size, 6, 0, 26, #[.bool b, .slice A n c, .slice D m e, .bool x], CAny⟩, ⟨w.heap.size + 1, 6, 0, 26, #[.bool b', .slice A' n' c', .slice D' m' e', .bool x'], CAny⟩, ⟨w.heap.size + 1 + 1, 6, 0, 26, #[.bool false, .slice none 0 0, .slice none 0 0, .bool false], CAny⟩, ⟨w.heap.size + 1 + 1 + 1, 6, 0, 26, #[.bool b, .slice A n c, .slice D m e, .bool x, .bool b', .slice A' n' c', .slice D' m' e', .bool x'], CAny⟩]) (x0 := (fun _ => undef)) (by kernel_rfl)
    (each_of ⟨fun _ _ => rfl, fun _ _ => rfl, fun _ _ => rfl, fun _ _ => rfl, fun _ _ => rfl, fun _ _ => rfl, trivial⟩) (each_of (acyc_from _ 0 (by kernel_rfl))) (AllStab.get _ ⟨stEq _, stEq _, stT _ _, stT _ _, stAny, stAny, trivial⟩)
    (List.forall_mem_cons.2 ⟨scT _ _, fun _ h => nomatch h⟩) (List.forall_mem_cons.2 ⟨scAny, List.forall_mem_cons.2 ⟨scAny, List.forall_mem_cons.2 ⟨scAny, List.forall_mem_cons.2 ⟨scAny, fun _ h => nomatch h⟩⟩⟩⟩) (List.forall_mem_cons.2 ⟨⟨by simp, by simp⟩, fun _ h => nomatch h⟩) bw1.size
    (List.forall_mem_cons.2 ⟨⟨x1_0, by show w.heap.size ≤ w.heap.size; omega⟩, List.forall_mem_cons.2 ⟨⟨x1_1, by show w.heap.size ≤ w.heap.size + 1; omega⟩, List.forall_mem_cons.2 ⟨⟨x1_2, by show w.heap.size ≤ w.heap.size + 1 + 1; omega⟩, List.forall_mem_cons.2 ⟨⟨x1_3, by show w.heap.size ≤ w.heap.size + 1 + 1 + 1; omega⟩, fun _ h => nomatch h⟩⟩⟩⟩) (ownDist (by simp <;> omega))
    (each_of ⟨?_, ?_, ?_, ?_, ?_, ?_, trivial⟩) ?_
  · exact .inl ⟨by simp, by simp, fun xf wq hk hbl hd K hK => by
      have y : Blk wq (w.heap.size + 1) 26 #[.bool b', .slice A' n' c', .slice D' m' e', .bool x'] := hbl _ (List.Mem.tail _ (List.Mem.head _)) (by simp [Region.binds])
      have hcl0 : wq.cell? ⟨w.heap.size + 1, 0, none⟩ = some (.bool b') := y.cell 0
      have hcl1 : wq.cell? ⟨w.heap.size + 1, 1, none⟩ = some (.slice A' n' c') := y.cell 1
      have hcl2 : wq.cell? ⟨w.heap.size + 1, 2, none⟩ = some (.slice D' m' e') := y.cell 2
      have hcl3 : wq.cell? ⟨w.heap.size + 1, 3, none⟩ = some (.bool x') := y.cell 3
      (try dsimp only)
      go_simp
      exact hK.out (.agg #[.bool b', .slice A' n' c', .slice D' m' e', .bool x']) _ rfl (brefl _)⟩
  · exact .inl ⟨by simp, by simp, fun xf wq hk hbl hd K hK => by
      have y : Blk wq (w.heap.size) 26 #[.bool b, .slice A n c, .slice D m e, .bool x] := hbl _ (List.Mem.head _) (by simp [Region.binds])
      have hcl0 : wq.cell? ⟨w.heap.size, 0, none⟩ = some (.bool b) := y.cell 0
      have hcl1 : wq.cell? ⟨w.heap.size, 1, none⟩ = some (.slice A n c) := y.cell 1
      have hcl2 : wq.cell? ⟨w.heap.size, 2, none⟩ = some (.slice D m e) := y.cell 2
      have hcl3 : wq.cell? ⟨w.heap.size, 3, none⟩ = some (.bool x) := y.cell 3
      (try dsimp only)
      go_simp
      exact hK.out (.agg #[.bool b, .slice A n c, .slice D m e, .bool x]) _ rfl (brefl _)⟩
  · exact .inl ⟨by simp, by simp, fun xf wq hk hbl hd K hK => by
      have d1 : xf 1 = .agg #[.bool b, .slice A n c, .slice D m e, .bool x] := hd ⟨1, .data⟩ (by simp) rfl
      (try dsimp only); (try simp only [d1])
      go_simp
      go_at_call 36
      (with_reducible refine (t_neg _ b A n c D m e x (t) (k) ?_ ?_ ?_).mono ?_); (exact (h.keep hk)); (first | omega | decide | assumption); (first | omega | decide | assumption); rintro e wr ⟨b3, A3, n3, c3, A'3, n'3, c'3, x3, rfl, h3, hbr⟩
      have hz := hK.out _ _ ⟨b3, A3, n3, c3, A'3, n'3, c'3, x3, rfl, h3⟩ hbr
      simp only [d1] at hz
      exact hz⟩
  · exact .inl ⟨by simp, by simp, fun xf wq hk hbl hd K hK => by
      have d0 : xf 0 = .agg #[.bool b', .slice A' n' c', .slice D' m' e', .bool x'] := hd ⟨0, .data⟩ (by simp) rfl
      obtain ⟨b3, A3, n3, c3, A'3, n'3, c'3, x3, d2, h3⟩ : VT (tneg ((t))) ((k)) (xf 2) wq := hd ⟨2, .data⟩ (by simp) rfl
      (try dsimp only); (try simp only [d0, d2])
      go_simp
      go_at_call 27
      (with_reducible refine (t_add _ b' A' n' c' D' m' e' x' (t') (k') ?_ b3 A3 n3 c3 A'3 n'3 c'3 x3 (tneg ((t))) ((k)) ?_ ?_ ?_ ?_ ?_).mono ?_); (exact (h'.keep hk)); (exact h3.tk); (first | omega | decide | assumption); (first | omega | decide | assumption); (first | omega | decide | assumption); (first | omega | decide | assumption); rintro e wr ⟨b4, A4, n4, c4, A'4, n'4, c'4, x4, rfl, h4, hbr⟩
      have hz := hK.out _ _ ⟨b4, A4, n4, c4, A'4, n'4, c'4, x4, rfl, h4⟩ hbr
      simp only [d0, d2] at hz
      exact hz⟩
  · exact .inr (.inl ⟨⟨4, 5, 26, #[.bool false, .slice none 0 0, .slice none 0 0, .bool false], CT (tadd ((t')) ((tneg ((t))))) (2 * ((k')) + 2 * (((k))) + 3)⟩, by simp, rfl, by simp, by simp, by simp, fun _ _ => True.intro, fun xf wq K hK => by
      (try dsimp only)
      go_simp
      exact hK.out⟩)
  · exact .inr (.inr (.inl ⟨⟨4, 5, 26, #[.bool false, .slice none 0 0, .slice none 0 0, .bool false], CT (tadd ((t')) ((tneg ((t))))) (2 * ((k')) + 2 * (((k))) + 3)⟩, by simp, rfl, by simp, by simp, by simp, by simp, (show KT 26 = false by decide), fun _ _ => True.intro, ⟨⟨4, .data⟩, by simp, rfl, rfl⟩, fun xf wq g hx hblk hd => by
      obtain ⟨b4, A4, n4, c4, A'4, n'4, c'4, x4, d3, h4⟩ : VT (tadd ((t')) ((tneg ((t))))) (2 * ((k')) + 2 * (((k))) + 3) (xf 3) wq := hd ⟨3, .data⟩ (by simp) rfl
      dsimp only at hx hblk
      refine ⟨[.bool b4, .slice A4 n4 c4, .slice A'4 n'4 c'4, .bool x4], fun w' hk => ⟨b4, A4, n4, c4, A'4, n'4, c'4, x4, rfl, h4.keep hk⟩, fun K hK => ?_⟩
      have hc0 : wq.cell? ⟨g, 0, none⟩ = some (.bool false) := hblk.cell 0
      have hc1 : wq.cell? ⟨g, 1, none⟩ = some (.slice none 0 0) := hblk.cell 1
      have hc2 : wq.cell? ⟨g, 2, none⟩ = some (.slice none 0 0) := hblk.cell 2
      have hc3 : wq.cell? ⟨g, 3, none⟩ = some (.bool false) := hblk.cell 3
      have hf0 : wq.frozen? ⟨g, 0, none⟩ = false := hblk.frozen 0
      have hf1 : wq.frozen? ⟨g, 1, none⟩ = false := hblk.frozen 1
      have hf2 : wq.frozen? ⟨g, 2, none⟩ = false := hblk.frozen 2
      have hf3 : wq.frozen? ⟨g, 3, none⟩ = false := hblk.frozen 3
      (try dsimp only)
      simp only [hx, d3]
      go_simp
      have hz := hK.out undef
      simp only [hx, d3] at hz
      exact hz⟩))
  clear cx1_0_0 cx1_0_1 cx1_0_2 cx1_0_3 lx1_0_0 lx1_0_1 lx1_0_2 lx1_0_3 cx1_1_0 cx1_1_1 cx1_1_2 cx1_1_3 lx1_1_0 lx1_1_1 lx1_1_2 lx1_1_3
  intro y2 w2 kq2 hbl2 lw2 how hrr hfl hds
  replace h := h.keep kq2
  replace h' := h'.keep kq2
  obtain ⟨_, z2_0, ez, _⟩ := how _ (List.Mem.head _)
  obtain rfl := ez (by simp)
  dsimp only at z2_0
  obtain ⟨_, z2_1, ez, _⟩ := how _ (List.Mem.tail _ (List.Mem.head _))
  obtain rfl := ez (by simp)
  dsimp only at z2_1
  obtain ⟨_, z2_2, ez, _⟩ := how _ (List.Mem.tail _ (List.Mem.tail _ (List.Mem.head _)))
  obtain rfl := ez (by simp)
  dsimp only at z2_2
  obtain ⟨_, z2_3, ez, _⟩ := how _ (List.Mem.tail _ (List.Mem.tail _ (List.Mem.tail _ (List.Mem.head _))))
  obtain rfl := ez (by simp)
  dsimp only at z2_3
  obtain ⟨g7_2, _, eg7_2, Gg7_2, xg7_2, ⟨b4, A4, n4, c4, A'4, n'4, c'4, x4, rfl, h4⟩⟩ := hfl _ (List.Mem.head _)
  dsimp only at eg7_2 Gg7_2 xg7_2
  have lgg7_2 : g7_2 < w2.heap.size := xg7_2.lt
  (try dsimp only)
  simp only [eg7_2]
  clear hrr hfl how hds eg7_2
  clear x1_0 x1_1 x1_2 x1_3
  have bw2 : Below w.heap.size w w2 := bw1.trans hbl2
  clear bw1
  go_wp2_with fail
  obtain rfl : x4 = true := h4.2.1.trans HH.out
  (with_reducible refine (t_half _).mono ?_); rintro e w6 ⟨b6, A6, n6, c6, A'6, n'6, c'6, x6, rfl, h6, hb6⟩
  have q6 : Below w2.heap.size w2 w6 := hb6
  replace h := h.belw q6
  replace h' := h'.belw q6
  replace h4 := h4.belw q6
  replace z2_0 : Blk w6 (w.heap.size) 26 #[.bool b, .slice A n c, .slice D m e, .bool x] := z2_0.below q6 z2_0.lt
  replace z2_1 : Blk w6 (w.heap.size + 1) 26 #[.bool b', .slice A' n' c', .slice D' m' e', .bool x'] := z2_1.below q6 z2_1.lt
  replace z2_2 : Blk w6 (w.heap.size + 1 + 1) 26 #[.bool false, .slice none 0 0, .slice none 0 0, .bool false] := z2_2.below q6 z2_2.lt
  replace z2_3 : Blk w6 (w.heap.size + 1 + 1 + 1) 26 #[.bool b, .slice A n c, .slice D m e, .bool x, .bool b', .slice A' n' c', .slice D' m' e', .bool x'] := z2_3.below q6 z2_3.lt
  replace xg7_2 : Blk w6 (g7_2) 26 #[.bool b4, .slice A4 n4 c4, .slice A'4 n'4 c'4, .bool true] := xg7_2.below q6 xg7_2.lt
  have bw6 : Below w.heap.size w w6 := bw2.trans (q6.mono bw2.size)
  have lw6 : w2.heap.size ≤ w6.heap.size := q6.size
  clear hb6 q6 bw2
  have cxg7_2_0 : w6.cell? ⟨g7_2, 0, none⟩ = some (.bool b4) := xg7_2.cell 0
  have cxg7_2_1 : w6.cell? ⟨g7_2, 1, none⟩ = some (.slice A4 n4 c4) := xg7_2.cell 1
  have cxg7_2_2 : w6.cell? ⟨g7_2, 2, none⟩ = some (.slice A'4 n'4 c'4) := xg7_2.cell 2
  have cxg7_2_3 : w6.cell? ⟨g7_2, 3, none⟩ = some (.bool true) := xg7_2.cell 3
  have lxg7_2_0 : g7_2 < w6.heap.size := by have := xg7_2.lt; omega
  have lxg7_2_1 : g7_2 < w6.heap.size + 1 := by have := xg7_2.lt; omega
  have lxg7_2_2 : g7_2 < w6.heap.size + 2 := by have := xg7_2.lt; omega
  have lxg7_2_3 : g7_2 < w6.heap.size + 3 := by have := xg7_2.lt; omega
  go_wp2_with fail
  (with_reducible refine (f_of _ (1) ?_ ?_).mono ?_); (first | omega | decide | assumption); (first | omega | decide | assumption); rintro e w7 ⟨b7, A7, n7, c7, A'7, n'7, c'7, rfl, h7, hb7⟩
  clear cxg7_2_0 cxg7_2_1 cxg7_2_2 cxg7_2_3 lxg7_2_0 lxg7_2_1 lxg7_2_2 lxg7_2_3
  have q7 : Below w6.heap.size w6 w7 := ((Below.refl _ _).alloc (Nat.le_refl _) _).trans (hb7.mono (by simp))
  replace h := h.belw q7
  replace h' := h'.belw q7
  replace h4 := h4.belw q7
  replace h6 := h6.belw q7
  replace z2_0 : Blk w7 (w.heap.size) 26 #[.bool b, .slice A n c, .slice D m e, .bool x] := z2_0.below q7 z2_0.lt
  replace z2_1 : Blk w7 (w.heap.size + 1) 26 #[.bool b', .slice A' n' c', .slice D' m' e', .bool x'] := z2_1.below q7 z2_1.lt
  replace z2_2 : Blk w7 (w.heap.size + 1 + 1) 26 #[.bool false, .slice none 0 0, .slice none 0 0, .bool false] := z2_2.below q7 z2_2.lt
  replace z2_3 : Blk w7 (w.heap.size + 1 + 1 + 1) 26 #[.bool b, .slice A n c, .slice D m e, .bool x, .bool b', .slice A' n' c', .slice D' m' e', .bool x'] := z2_3.below q7 z2_3.lt
  replace xg7_2 : Blk w7 (g7_2) 26 #[.bool b4, .slice A4 n4 c4, .slice A'4 n'4 c'4, .bool true] := xg7_2.below q7 xg7_2.lt
  have x7_0 : Blk w7 (w6.heap.size) 26 #[.bool b6, .slice A6 n6 c6, .slice A'6 n'6 c'6, .bool x6] := (blkAt _ _ _ (by simp)).below hb7 (by simp)
  have bw7 : Below w.heap.size w w7 := bw6.trans (q7.mono bw6.size)
  have lw7 : w6.heap.size + 1 ≤ w7.heap.size := by have := hb7.size; simp at this; omega
  clear hb7 q7 bw6
  have cz2_0_0 : w7.cell? ⟨w.heap.size, 0, none⟩ = some (.bool b) := z2_0.cell 0
  have cz2_0_1 : w7.cell? ⟨w.heap.size, 1, none⟩ = some (.slice A n c) := z2_0.cell 1
  have cz2_0_2 : w7.cell? ⟨w.heap.size, 2, none⟩ = some (.slice D m e) := z2_0.cell 2
  have cz2_0_3 : w7.cell? ⟨w.heap.size, 3, none⟩ = some (.bool x) := z2_0.cell 3
  have lz2_0_0 : w.heap.size < w7.heap.size := by have := z2_0.lt; omega
  have lz2_0_1 : w.heap.size < w7.heap.size + 1 := by have := z2_0.lt; omega
  have lz2_0_2 : w.heap.size < w7.heap.size + 2 := by have := z2_0.lt; omega
  have lz2_0_3 : w.heap.size < w7.heap.size + 3 := by have := z2_0.lt; omega
  have cx7_0_0 : w7.cell? ⟨w6.heap.size, 0, none⟩ = some (.bool b6) := x7_0.cell 0
  have fx7_0_0 : w7.frozen? ⟨w6.heap.size, 0, none⟩ = false := x7_0.frozen 0
  have cx7_0_1 : w7.cell? ⟨w6.heap.size, 1, none⟩ = some (.slice A6 n6 c6) := x7_0.cell 1
  have fx7_0_1 : w7.frozen? ⟨w6.heap.size, 1, none⟩ = false := x7_0.frozen 1
  have cx7_0_2 : w7.cell? ⟨w6.heap.size, 2, none⟩ = some (.slice A'6 n'6 c'6) := x7_0.cell 2
  have fx7_0_2 : w7.frozen? ⟨w6.heap.size, 2, none⟩ = false := x7_0.frozen 2
  have cx7_0_3 : w7.cell? ⟨w6.heap.size, 3, none⟩ = some (.bool x6) := x7_0.cell 3
  have fx7_0_3 : w7.frozen? ⟨w6.heap.size, 3, none⟩ = false := x7_0.frozen 3
  have lx7_0_0 : w6.heap.size < w7.heap.size := by have := x7_0.lt; omega
  have lx7_0_1 : w6.heap.size < w7.heap.size + 1 := by have := x7_0.lt; omega
  have lx7_0_2 : w6.heap.size < w7.heap.size + 2 := by have := x7_0.lt; omega
  have lx7_0_3 : w6.heap.size < w7.heap.size + 3 := by have := x7_0.lt; omega
  go_wp2_with fail
  have hF := TV.frac h7
  clear cz2_0_0 cz2_0_1 cz2_0_2 cz2_0_3 lz2_0_0 lz2_0_1 lz2_0_2 lz2_0_3 cx7_0_0 fx7_0_0 cx7_0_1 fx7_0_1 cx7_0_2 fx7_0_2 cx7_0_3 fx7_0_3 lx7_0_0 lx7_0_1 lx7_0_2 lx7_0_3
  have p8 : Kp w7 ((((w7.setCell ⟨w6.heap.size, 0, none⟩ (.bool b7)).setCell ⟨w6.heap.size, 1, none⟩ (.slice A7 n7 c7)).setCell ⟨w6.heap.size, 2, none⟩ (.slice A'7 n'7 c'7)).setCell ⟨w6.heap.size, 3, none⟩ (.bool false)) := (((((Kp.refl w7).setB (p := ⟨w6.heap.size, 0, none⟩) x7_0.box (by decide) (.bool b7)).setB (p := ⟨w6.heap.size, 1, none⟩) (x7_0.box.set ⟨w6.heap.size, 0, none⟩ (.bool b7)) (by decide) (.slice A7 n7 c7)).setB (p := ⟨w6.heap.size, 2, none⟩) ((x7_0.box.set ⟨w6.heap.size, 0, none⟩ (.bool b7)).set ⟨w6.heap.size, 1, none⟩ (.slice A7 n7 c7)) (by decide) (.slice A'7 n'7 c'7)).setB (p := ⟨w6.heap.size, 3, none⟩) (((x7_0.box.set ⟨w6.heap.size, 0, none⟩ (.bool b7)).set ⟨w6.heap.size, 1, none⟩ (.slice A7 n7 c7)).set ⟨w6.heap.size, 2, none⟩ (.slice A'7 n'7 c'7)) (by decide) (.bool false))
  have bw8 : Below w.heap.size w ((((w7.setCell ⟨w6.heap.size, 0, none⟩ (.bool b7)).setCell ⟨w6.heap.size, 1, none⟩ (.slice A7 n7 c7)).setCell ⟨w6.heap.size, 2, none⟩ (.slice A'7 n'7 c'7)).setCell ⟨w6.heap.size, 3, none⟩ (.bool false)) := ((((bw7.setCell (p := ⟨w6.heap.size, 0, none⟩) (by dsimp only; omega) (.bool b7)).setCell (p := ⟨w6.heap.size, 1, none⟩) (by dsimp only; omega) (.slice A7 n7 c7)).setCell (p := ⟨w6.heap.size, 2, none⟩) (by dsimp only; omega) (.slice A'7 n'7 c'7)).setCell (p := ⟨w6.heap.size, 3, none⟩) (by dsimp only; omega) (.bool false))
  replace z2_0 : Blk ((((w7.setCell ⟨w6.heap.size, 0, none⟩ (.bool b7)).setCell ⟨w6.heap.size, 1, none⟩ (.slice A7 n7 c7)).setCell ⟨w6.heap.size, 2, none⟩ (.slice A'7 n'7 c'7)).setCell ⟨w6.heap.size, 3, none⟩ (.bool false)) (w.heap.size) 26 #[.bool b, .slice A n c, .slice D m e, .bool x] := ((((z2_0.far (p := ⟨w6.heap.size, 0, none⟩) (by dsimp only; omega) (.bool b7)).far (p := ⟨w6.heap.size, 1, none⟩) (by dsimp only; omega) (.slice A7 n7 c7)).far (p := ⟨w6.heap.size, 2, none⟩) (by dsimp only; omega) (.slice A'7 n'7 c'7)).far (p := ⟨w6.heap.size, 3, none⟩) (by dsimp only; omega) (.bool false))
  replace z2_1 : Blk ((((w7.setCell ⟨w6.heap.size, 0, none⟩ (.bool b7)).setCell ⟨w6.heap.size, 1, none⟩ (.slice A7 n7 c7)).setCell ⟨w6.heap.size, 2, none⟩ (.slice A'7 n'7 c'7)).setCell ⟨w6.heap.size, 3, none⟩ (.bool false)) (w.heap.size + 1) 26 #[.bool b', .slice A' n' c', .slice D' m' e', .bool x'] := ((((z2_1.far (p := ⟨w6.heap.size, 0, none⟩) (by dsimp only; omega) (.bool b7)).far (p := ⟨w6.heap.size, 1, none⟩) (by dsimp only; omega) (.slice A7 n7 c7)).far (p := ⟨w6.heap.size, 2, none⟩) (by dsimp only; omega) (.slice A'7 n'7 c'7)).far (p := ⟨w6.heap.size, 3, none⟩) (by dsimp only; omega) (.bool false))
  replace z2_2 : Blk ((((w7.setCell ⟨w6.heap.size, 0, none⟩ (.bool b7)).setCell ⟨w6.heap.size, 1, none⟩ (.slice A7 n7 c7)).setCell ⟨w6.heap.size, 2, none⟩ (.slice A'7 n'7 c'7)).setCell ⟨w6.heap.size, 3, none⟩ (.bool false)) (w.heap.size + 1 + 1) 26 #[.bool false, .slice none 0 0, .slice none 0 0, .bool false] := ((((z2_2.far (p := ⟨w6.heap.size, 0, none⟩) (by dsimp only; omega) (.bool b7)).far (p := ⟨w6.heap.size, 1, none⟩) (by dsimp only; omega) (.slice A7 n7 c7)).far (p := ⟨w6.heap.size, 2, none⟩) (by dsimp only; omega) (.slice A'7 n'7 c'7)).far (p := ⟨w6.heap.size, 3, none⟩) (by dsimp only; omega) (.bool false))
  replace z2_3 : Blk ((((w7.setCell ⟨w6.heap.size, 0, none⟩ (.bool b7)).setCell ⟨w6.heap.size, 1, none⟩ (.slice A7 n7 c7)).setCell ⟨w6.heap.size, 2, none⟩ (.slice A'7 n'7 c'7)).setCell ⟨w6.heap.size, 3, none⟩ (.bool false)) (w.heap.size + 1 + 1 + 1) 26 #[.bool b, .slice A n c, .slice D m e, .bool x, .bool b', .slice A' n' c', .slice D' m' e', .bool x'] := ((((z2_3.far (p := ⟨w6.heap.size, 0, none⟩) (by dsimp only; omega) (.bool b7)).far (p := ⟨w6.heap.size, 1, none⟩) (by dsimp only; omega) (.slice A7 n7 c7)).far (p := ⟨w6.heap.size, 2, none⟩) (by dsimp only; omega) (.slice A'7 n'7 c'7)).far (p := ⟨w6.heap.size, 3, none⟩) (by dsimp only; omega) (.bool false))
  replace xg7_2 : Blk ((((w7.setCell ⟨w6.heap.size, 0, none⟩ (.bool b7)).setCell ⟨w6.heap.size, 1, none⟩ (.slice A7 n7 c7)).setCell ⟨w6.heap.size, 2, none⟩ (.slice A'7 n'7 c'7)).setCell ⟨w6.heap.size, 3, none⟩ (.bool false)) (g7_2) 26 #[.bool b4, .slice A4 n4 c4, .slice A'4 n'4 c'4, .bool true] := ((((xg7_2.far (p := ⟨w6.heap.size, 0, none⟩) (by dsimp only; omega) (.bool b7)).far (p := ⟨w6.heap.size, 1, none⟩) (by dsimp only; omega) (.slice A7 n7 c7)).far (p := ⟨w6.heap.size, 2, none⟩) (by dsimp only; omega) (.slice A'7 n'7 c'7)).far (p := ⟨w6.heap.size, 3, none⟩) (by dsimp only; omega) (.bool false))
  replace x7_0 : Blk ((((w7.setCell ⟨w6.heap.size, 0, none⟩ (.bool b7)).setCell ⟨w6.heap.size, 1, none⟩ (.slice A7 n7 c7)).setCell ⟨w6.heap.size, 2, none⟩ (.slice A'7 n'7 c'7)).setCell ⟨w6.heap.size, 3, none⟩ (.bool false)) (w6.heap.size) 26 #[.bool b7, .slice A7 n7 c7, .slice A'7 n'7 c'7, .bool false] := ((((x7_0.set_at 0 (.bool b7) #[.bool b7, .slice A6 n6 c6, .slice A'6 n'6 c'6, .bool x6] (by simp)).set_at 1 (.slice A7 n7 c7) #[.bool b7, .slice A7 n7 c7, .slice A'6 n'6 c'6, .bool x6] (by simp)).set_at 2 (.slice A'7 n'7 c'7) #[.bool b7, .slice A7 n7 c7, .slice A'7 n'7 c'7, .bool x6] (by simp)).set_at 3 (.bool false) #[.bool b7, .slice A7 n7 c7, .slice A'7 n'7 c'7, .bool false] (by simp))
  have lw8 : w7.heap.size + 0 ≤ ((((w7.setCell ⟨w6.heap.size, 0, none⟩ (.bool b7)).setCell ⟨w6.heap.size, 1, none⟩ (.slice A7 n7 c7)).setCell ⟨w6.heap.size, 2, none⟩ (.slice A'7 n'7 c'7)).setCell ⟨w6.heap.size, 3, none⟩ (.bool false)).heap.size := by simp
  generalize hE8 : ((((w7.setCell ⟨w6.heap.size, 0, none⟩ (.bool b7)).setCell ⟨w6.heap.size, 1, none⟩ (.slice A7 n7 c7)).setCell ⟨w6.heap.size, 2, none⟩ (.slice A'7 n'7 c'7)).setCell ⟨w6.heap.size, 3, none⟩ (.bool false)) = w8 at p8 bw8 lw8 z2_0 z2_1 z2_2 z2_3 xg7_2 x7_0 ⊢
  clear hE8
  replace h := h.keep p8
  replace h' := h'.keep p8
  replace h4 := h4.keep p8
  replace h6 := h6.keep p8
  replace h7 := h7.keep p8
  replace hF := hF.keep p8
  clear bw7
  (with_reducible refine (t_add _ b A n c D m e x (t) (k) ?_ b7 A7 n7 c7 A'7 n'7 c'7 false (⟨((1 : Int) : Rat), false⟩) (1) ?_ ?_ ?_ ?_ ?_).mono ?_); (exact h); (exact hF.tk); (first | omega | decide | assumption); (first | omega | decide | assumption); (first | omega | decide | assumption); (first | omega | decide | assumption); rintro e w9 ⟨b9, A9, n9, c9, A'9, n'9, c'9, x9, rfl, h9, hb9⟩
  have q9 : Below w8.heap.size w8 w9 := hb9
  replace h := h.belw q9
  replace h' := h'.belw q9
  replace h4 := h4.belw q9
  replace h6 := h6.belw q9
  replace h7 := h7.belw q9
  replace hF := hF.belw q9
  replace z2_0 : Blk w9 (w.heap.size) 26 #[.bool b, .slice A n c, .slice D m e, .bool x] := z2_0.below q9 z2_0.lt
  replace z2_1 : Blk w9 (w.heap.size + 1) 26 #[.bool b', .slice A' n' c', .slice D' m' e', .bool x'] := z2_1.below q9 z2_1.lt
  replace z2_2 : Blk w9 (w.heap.size + 1 + 1) 26 #[.bool false, .slice none 0 0, .slice none 0 0, .bool false] := z2_2.below q9 z2_2.lt
  replace z2_3 : Blk w9 (w.heap.size + 1 + 1 + 1) 26 #[.bool b, .slice A n c, .slice D m e, .bool x, .bool b', .slice A' n' c', .slice D' m' e', .bool x'] := z2_3.below q9 z2_3.lt
  replace xg7_2 : Blk w9 (g7_2) 26 #[.bool b4, .slice A4 n4 c4, .slice A'4 n'4 c'4, .bool true] := xg7_2.below q9 xg7_2.lt
  replace x7_0 : Blk w9 (w6.heap.size) 26 #[.bool b7, .slice A7 n7 c7, .slice A'7 n'7 c'7, .bool false] := x7_0.below q9 x7_0.lt
  have bw9 : Below w.heap.size w w9 := bw8.trans (q9.mono bw8.size)
  have lw9 : w8.heap.size ≤ w9.heap.size := q9.size
  clear hb9 q9 bw8
  have cz2_2_0 : w9.cell? ⟨w.heap.size + 1 + 1, 0, none⟩ = some (.bool false) := z2_2.cell 0
  have fz2_2_0 : w9.frozen? ⟨w.heap.size + 1 + 1, 0, none⟩ = false := z2_2.frozen 0
  have cz2_2_1 : w9.cell? ⟨w.heap.size + 1 + 1, 1, none⟩ = some (.slice none 0 0) := z2_2.cell 1
  have fz2_2_1 : w9.frozen? ⟨w.heap.size + 1 + 1, 1, none⟩ = false := z2_2.frozen 1
  have cz2_2_2 : w9.cell? ⟨w.heap.size + 1 + 1, 2, none⟩ = some (.slice none 0 0) := z2_2.cell 2
  have fz2_2_2 : w9.frozen? ⟨w.heap.size + 1 + 1, 2, none⟩ = false := z2_2.frozen 2
  have cz2_2_3 : w9.cell? ⟨w.heap.size + 1 + 1, 3, none⟩ = some (.bool false) := z2_2.cell 3
  have fz2_2_3 : w9.frozen? ⟨w.heap.size + 1 + 1, 3, none⟩ = false := z2_2.frozen 3
  have lz2_2_0 : w.heap.size + 2 < w9.heap.size := by have := z2_2.lt; omega
  have lz2_2_1 : w.heap.size + 1 < w9.heap.size := by have := z2_2.lt; omega
  have lz2_2_2 : w.heap.size < w9.heap.size := by have := z2_2.lt; omega
  have lz2_2_3 : w.heap.size < w9.heap.size + 1 := by have := z2_2.lt; omega
  go_wp2_with fail
  rw [HT.out]
  refine bodyPost_ret (v := .tuple #[.agg #[.bool b9, .slice A9 n9 c9, .slice A'9 n'9 c'9, .bool x9], .nilIface]) (by simp [results, Try.results21, go_sem, *] <;> first | rfl | exact ⟨rfl, rfl⟩) rfl ?_
  have kp := (((((Kp.refl w9).setB (p := ⟨w.heap.size + 1 + 1, 0, none⟩) z2_2.box (by decide) (.bool b9)).setB (p := ⟨w.heap.size + 1 + 1, 1, none⟩) (z2_2.box.set ⟨w.heap.size + 1 + 1, 0, none⟩ (.bool b9)) (by decide) (.slice A9 n9 c9)).setB (p := ⟨w.heap.size + 1 + 1, 2, none⟩) ((z2_2.box.set ⟨w.heap.size + 1 + 1, 0, none⟩ (.bool b9)).set ⟨w.heap.size + 1 + 1, 1, none⟩ (.slice A9 n9 c9)) (by decide) (.slice A'9 n'9 c'9)).setB (p := ⟨w.heap.size + 1 + 1, 3, none⟩) (((z2_2.box.set ⟨w.heap.size + 1 + 1, 0, none⟩ (.bool b9)).set ⟨w.heap.size + 1 + 1, 1, none⟩ (.slice A9 n9 c9)).set ⟨w.heap.size + 1 + 1, 2, none⟩ (.slice A'9 n'9 c'9)) (by decide) (.bool x9))
  exact ⟨b9, A9, n9, c9, A'9, n'9, c'9, x9, rfl, (h9.keep kp).mono (by omega), ((((bw9.setCell (p := ⟨w.heap.size + 1 + 1, 0, none⟩) (by dsimp only; omega) (.bool b9)).setCell (p := ⟨w.heap.size + 1 + 1, 1, none⟩) (by dsimp only; omega) (.slice A9 n9 c9)).setCell (p := ⟨w.heap.size + 1 + 1, 2, none⟩) (by dsimp only; omega) (.slice A'9 n'9 c'9)).setCell (p := ⟨w.heap.size + 1 + 1, 3, none⟩) (by dsimp only; omega) (.bool x9))⟩
set_option maxRecDepth 100000 in
set_option maxHeartbeats 4000000 in
/-- turn.Between -/
theorem t_Between_p (w : World) (b : Bool) (A : Option Addr) (n c : Nat) (D : Option Addr) (m e : Nat) (x : Bool) (t : TN) (k : Nat) (h : TK w b A n c D m e x t k) (b' : Bool) (A' : Option Addr) (n' c' : Nat) (D' : Option Addr) (m' e' : Nat) (x' : Bool) (t' : TN) (k' : Nat) (h' : TK w b' A' n' c' D' m' e' x' t' k') (h0 : 0 < k) (hk : k ≤ 50000) (h0' : 0 < k') (hk' : k' ≤ 50000) (hh : (tadd t' (tneg t)).h = false) (s : Int) (hs : (tadd t' (tneg t)).t.num.sign = s) (hp : 0 < (tadd t' (tneg t)).t) (hp2 : 0 < s) :
    Calls Try.prog 21 #[.agg #[.bool b, .slice A n c, .slice D m e, .bool x], .agg #[.bool b', .slice A' n' c', .slice D' m' e', .bool x']] w (RetTe w .nilIface (tbetween t t') (6 * k + 4 * k' + 20)) := by
  have HT := Lib.hid (show tbetween t t' = tadd t ⟨(tadd t' (tneg t)).t / ((2 : Int) : Rat), false⟩ by unfold tbetween; rw [if_neg (by rw [hh]; decide), if_pos hp]; rfl)
  have HH := Lib.hid hh
  have HS := Lib.hid hs
  have e0 : decide (s > 0) = true := by simp; omega
  clear hh hs hp hp2
  go_enter Try.func21, Try.ntmps21
  go_wp2_with fail
  (with_reducible refine (t_checkAll _ (w.heap.size + 1 + 1 + 1) 2 ((k) + (k')) ?_ ?_ ?_ ?_).mono ?_); (exact ts2 (blkAt _ _ _ (by simp)) ((h.belw (((((Below.refl _ _).alloc (Nat.le_refl _) _).alloc (by simp) _).alloc (by simp <;> omega) _).alloc (by simp <;> omega) _)).mono (by omega)) ((h'.belw (((((Below.refl _ _).alloc (Nat.le_refl _) _).alloc (by simp) _).alloc (by simp <;> omega) _).alloc (by simp <;> omega) _)).mono (by omega))); (decide); (omega); (omega); rintro e w1 ⟨rfl, hb1⟩
  have q1 : Below w.heap.size w w1 := (((((Below.refl _ _).alloc (Nat.le_refl _) _).alloc (by simp) _).alloc (by simp <;> omega) _).alloc (by simp <;> omega) _).trans (hb1.mono (by simp <;> omega))
  replace h := h.belw q1
  replace h' := h'.belw q1
  have x1_0 : Blk w1 (w.heap.size) 26 #[.bool b, .slice A n c, .slice D m e, .bool x] := ((((blkAt _ _ _ (by simp)).alloc _).alloc _).alloc _).below hb1 (by simp <;> omega)
  have x1_1 : Blk w1 (w.heap.size + 1) 26 #[.bool b', .slice A' n' c', .slice D' m' e', .bool x'] := (((blkAt _ _ _ (by simp)).alloc _).alloc _).below hb1 (by simp <;> omega)
  have x1_2 : Blk w1 (w.heap.size + 1 + 1) 26 #[.bool false, .slice none 0 0, .slice none 0 0, .bool false] := ((blkAt _ _ _ (by simp)).alloc _).below hb1 (by simp <;> omega)
  have x1_3 : Blk w1 (w.heap.size + 1 + 1 + 1) 26 #[.bool b, .slice A n c, .slice D m e, .bool x, .bool b', .slice A' n' c', .slice D' m' e', .bool x'] := (blkAt _ _ _ (by simp)).below hb1 (by simp)
  have bw1 : Below w.heap.size w w1 := (brefl w).trans (q1.mono (brefl w).size)
  have lw1 : w.heap.size + 4 ≤ w1.heap.size := by have := hb1.size; simp at this; omega
  clear hb1 q1
  have cx1_0_0 : w1.cell? ⟨w.heap.size, 0, none⟩ = some (.bool b) := x1_0.cell 0
  have cx1_0_1 : w1.cell? ⟨w.heap.size, 1, none⟩ = some (.slice A n c) := x1_0.cell 1
  have cx1_0_2 : w1.cell? ⟨w.heap.size, 2, none⟩ = some (.slice D m e) := x1_0.cell 2
  have cx1_0_3 : w1.cell? ⟨w.heap.size, 3, none⟩ = some (.bool x) := x1_0.cell 3
  have lx1_0_0 : w.heap.size < w1.heap.size := by have := x1_0.lt; omega
  have lx1_0_1 : w.heap.size < w1.heap.size + 1 := by have := x1_0.lt; omega
  have lx1_0_2 : w.heap.size < w1.heap.size + 2 := by have := x1_0.lt; omega
  have lx1_0_3 : w.heap.size < w1.heap.size + 3 := by have := x1_0.lt; omega
  have cx1_1_0 : w1.cell? ⟨w.heap.size + 1, 0, none⟩ = some (.bool b') := x1_1.cell 0
  have cx1_1_1 : w1.cell? ⟨w.heap.size + 1, 1, none⟩ = some (.slice A' n' c') := x1_1.cell 1
  have cx1_1_2 : w1.cell? ⟨w.heap.size + 1, 2, none⟩ = some (.slice D' m' e') := x1_1.cell 2
  have cx1_1_3 : w1.cell? ⟨w.heap.size + 1, 3, none⟩ = some (.bool x') := x1_1.cell 3
  have lx1_1_0 : w.heap.size + 1 < w1.heap.size := by have := x1_1.lt; omega
  have lx1_1_1 : w.heap.size < w1.heap.size := by have := x1_1.lt; omega
  have lx1_1_2 : w.heap.size < w1.heap.size + 1 := by have := x1_1.lt; omega
  have lx1_1_3 : w.heap.size < w1.heap.size + 2 := by have := x1_1.lt; omega
  go_wp2_with fail
  refine wp_region_lin (B := w.heap.size) (fr := fun xf => ⟨List.toArray (.agg #[.bool b, .slice A n c, .slice D m e, .bool x] :: .agg #[.bool b', .slice A' n' c', .slice D' m' e', .bool x'] :: .pointer (some ⟨w.heap.size, 0, none⟩) :: .pointer (some ⟨w.heap.size + 1, 0, none⟩) :: .pointer (some ⟨w.heap.size + 1 + 1, 0, none⟩) :: .nilIface :: .nilIface :: xf 4 :: undef :: .agg #[.bool b, .slice A n c, .slice D m e, .bool x] :: .agg #[.bool b', .slice A' n' c', .slice D' m' e', .bool x'] :: .slice (some ⟨w.heap.size + 1 + 1 + 1, 0, none⟩) 2 2 :: .nilIface :: .nilIface :: .bool false :: undef :: undef :: xf 0 :: xf 1 :: xf 2 :: xf 3 :: undef :: undef :: undef :: undef :: undef :: undef :: undef :: undef :: undef :: undef :: undef :: undef :: undef :: undef :: undef :: undef :: undef :: undef :: undef :: []), []⟩) (R := fun i => List.getD ((PEq (.agg #[.bool b', .slice A' n' c', .slice D' m' e', .bool x'])) :: (PEq (.agg #[.bool b, .slice A n c, .slice D m e, .bool x])) :: (VT (tneg ((t))) ((k))) :: (VT (tadd ((t')) ((tneg ((t))))) (2 * ((k')) + 2 * (((k))) + 3)) :: PAny :: PAny :: []) i (fun _ _ => True)) (es := [⟨4, 5, 26, #[.bool false, .slice none 0 0, .slice none 0 0, .bool false], CT (tadd ((t')) ((tneg ((t))))) (2 * ((k')) + 2 * (((k))) + 3)⟩]) (ow := [⟨w.heap.size, 6, 0, 26, #[.bool b, .slice A n c, .slice D m e, .bool x], CAny⟩, ⟨w.heap.size + 1, 6, 0, 26, #[.bool b', .slice A' n' c', .slice D' m' e', .bool x'], CAny⟩, ⟨w.heap.size + 1 + 1, 6, 0, 26, #[.bool false, .slice none 0 0, .slice none 0 0, .bool false], CAny⟩, ⟨w.heap.size + 1 + 1 + 1, 6, 0, 26, #[.bool b, .slice A n c, .slice D m e, .bool x, .bool b', .slice A' n' c', .slice D' m' e', .bool x'], CAny⟩]) (x0 := (fun _ => undef)) (by kernel_rfl)
    (each_of ⟨fun _ _ => rfl, fun _ _ => rfl, fun _ _ => rfl, fun _ _ => rfl, fun _ _ => rfl, fun _ _ => rfl, trivial⟩) (each_of (acyc_from _ 0 (by kernel_rfl))) (AllStab.get _ ⟨stEq _, stEq _, stT _ _, stT _ _, stAny, stAny, trivial⟩)
    (List.forall_mem_cons.2 ⟨scT _ _, fun _ h => nomatch h⟩) (List.forall_mem_cons.2 ⟨scAny, List.forall_mem_cons.2 ⟨scAny, List.forall_mem_cons.2 ⟨scAny, List.forall_mem_cons.2 ⟨scAny, fun _ h => nomatch h⟩⟩⟩⟩) (List.forall_mem_cons.2 ⟨⟨by simp, by simp⟩, fun _ h => nomatch h⟩) bw1.size
    (List.forall_mem_cons.2 ⟨⟨x1_0, by show w.heap.size ≤ w.heap.size; omega⟩, List.forall_mem_cons.2 ⟨⟨x1_1, by show w.heap.size ≤ w.heap.size + 1; omega⟩, List.forall_mem_cons.2 ⟨⟨x1_2, by show w.heap.size ≤ w.heap.size + 1 + 1; omega⟩, List.forall_mem_cons.2 ⟨⟨x1_3, by show w.heap.size ≤ w.heap.size + 1 + 1 + 1; omega⟩, fun _ h => nomatch h⟩⟩⟩⟩) (ownDist (by simp <;> omega))
    (each_of ⟨?_, ?_, ?_, ?_, ?_, ?_, trivial⟩) ?_
  · exact .inl ⟨by simp, by simp, fun xf wq hk hbl hd K hK => by
      have y : Blk wq (w.heap.size + 1) 26 #[.bool b', .slice A' n' c', .slice D' m' e', .bool x'] := hbl _ (List.Mem.tail _ (List.Mem.head _)) (by simp [Region.binds])
      have hcl0 : wq.cell? ⟨w.heap.size + 1, 0, none⟩ = some (.bool b') := y.cell 0
      have hcl1 : wq.cell? ⟨w.heap.size + 1, 1, none⟩ = some (.slice A' n' c') := y.cell 1
      have hcl2 : wq.cell? ⟨w.heap.size + 1, 2, none⟩ = some (.slice D' m' e') := y.cell 2
      have hcl3 : wq.cell? ⟨w.heap.size + 1, 3, none⟩ = some (.bool x') := y.cell 3
      (try dsimp only)
      go_simp
      exact hK.out (.agg #[.bool b', .slice A' n' c', .slice D' m' e', .bool x']) _ rfl (brefl _)⟩
  · exact .inl ⟨by simp, by simp, fun xf wq hk hbl hd K hK => by
      have y : Blk wq (w.heap.size) 26 #[.bool b, .slice A n c, .slice D m e, .bool x] := hbl _ (List.Mem.head _) (by simp [Region.binds])
      have hcl0 : wq.cell? ⟨w.heap.size, 0, none⟩ = some (.bool b) := y.cell 0
      have hcl1 : wq.cell? ⟨w.heap.size, 1, none⟩ = some (.slice A n c) := y.cell 1
      have hcl2 : wq.cell? ⟨w.heap.size, 2, none⟩ = some (.slice D m e) := y.cell 2
      have hcl3 : wq.cell? ⟨w.heap.size, 3, none⟩ = some (.bool x) := y.cell 3
      (try dsimp only)
      go_simp
      exact hK.out (.agg #[.bool b, .slice A n c, .slice D m e, .bool x]) _ rfl (brefl _)⟩
  · exact .inl ⟨by simp, by simp, fun xf wq hk hbl hd K hK => by
      have d1 : xf 1 = .agg #[.bool b, .slice A n c, .slice D m e, .bool x] := hd ⟨1, .data⟩ (by simp) rfl
      (try dsimp only); (try simp only [d1])
      go_simp
      go_at_call 36
      (with_reducible refine (t_neg _ b A n c D m e x (t) (k) ?_ ?_ ?_).mono ?_); (exact (h.keep hk)); (first | omega | decide | assumption); (first | omega | decide | assumption); rintro e wr ⟨b3, A3, n3, c3, A'3, n'3, c'3, x3, rfl, h3, hbr⟩
      have hz := hK.out _ _ ⟨b3, A3, n3, c3, A'3, n'3, c'3, x3, rfl, h3⟩ hbr
      simp only [d1] at hz
      exact hz⟩
  · exact .inl ⟨by simp, by simp, fun xf wq hk hbl hd K hK => by
      have d0 : xf 0 = .agg #[.bool b', .slice A' n' c', .slice D' m' e', .bool x'] := hd ⟨0, .data⟩ (by simp) rfl
      obtain ⟨b3, A3, n3, c3, A'3, n'3, c'3, x3, d2, h3⟩ : VT (tneg ((t))) ((k)) (xf 2) wq := hd ⟨2, .data⟩ (by simp) rfl
      (try dsimp only); (try simp only [d0, d2])
      go_simp
      go_at_call 27
      (with_reducible refine (t_add _ b' A' n' c' D' m' e' x' (t') (k') ?_ b3 A3 n3 c3 A'3 n'3 c'3 x3 (tneg ((t))) ((k)) ?_ ?_ ?_ ?_ ?_).mono ?_); (exact (h'.keep hk)); (exact h3.tk); (first | omega | decide | assumption); (first | omega | decide | assumption); (first | omega | decide | assumption); (first | omega | decide | assumption); rintro e wr ⟨b4, A4, n4, c4, A'4, n'4, c'4, x4, rfl, h4, hbr⟩
      have hz := hK.out _ _ ⟨b4, A4, n4, c4, A'4, n'4, c'4, x4, rfl, h4⟩ hbr
      simp only [d0, d2] at hz
      exact hz⟩
  · exact .inr (.inl ⟨⟨4, 5, 26, #[.bool false, .slice none 0 0, .slice none 0 0, .bool false], CT (tadd ((t')) ((tneg ((t))))) (2 * ((k')) + 2 * (((k))) + 3)⟩, by simp, rfl, by simp, by simp, by simp, fun _ _ => True.intro, fun xf wq K hK => by
      (try dsimp only)
      go_simp
      exact hK.out⟩)
  · exact .inr (.inr (.inl ⟨⟨4, 5, 26, #[.bool false, .slice none 0 0, .slice none 0 0, .bool false], CT (tadd ((t')) ((tneg ((t))))) (2 * ((k')) + 2 * (((k))) + 3)⟩, by simp, rfl, by simp, by simp, by simp, by simp, (show KT 26 = false by decide), fun _ _ => True.intro, ⟨⟨4, .data⟩, by simp, rfl, rfl⟩, fun xf wq g hx hblk hd => by
      obtain ⟨b4, A4, n4, c4, A'4, n'4, c'4, x4, d3, h4⟩ : VT (tadd ((t')) ((tneg ((t))))) (2 * ((k')) + 2 * (((k))) + 3) (xf 3) wq := hd ⟨3, .data⟩ (by simp) rfl
      dsimp only at hx hblk
      refine ⟨[.bool b4, .slice A4 n4 c4, .slice A'4 n'4 c'4, .bool x4], fun w' hk => ⟨b4, A4, n4, c4, A'4, n'4, c'4, x4, rfl, h4.keep hk⟩, fun K hK => ?_⟩
      have hc0 : wq.cell? ⟨g, 0, none⟩ = some (.bool false) := hblk.cell 0
      have hc1 : wq.cell? ⟨g, 1, none⟩ = some (.slice none 0 0) := hblk.cell 1
      have hc2 : wq.cell? ⟨g, 2, none⟩ = some (.slice none 0 0) := hblk.cell 2
      have hc3 : wq.cell? ⟨g, 3, none⟩ = some (.bool false) := hblk.cell 3
      have hf0 : wq.frozen? ⟨g, 0, none⟩ = false := hblk.frozen 0
      have hf1 : wq.frozen? ⟨g, 1, none⟩ = false := hblk.frozen 1
      have hf2 : wq.frozen? ⟨g, 2, none⟩ = false := hblk.frozen 2
      have hf3 : wq.frozen? ⟨g, 3, none⟩ = false := hblk.frozen 3
      (try dsimp only)
      simp only [hx, d3]
      go_simp
      have hz := hK.out undef
      simp only [hx, d3] at hz
      exact hz⟩))
  clear cx1_0_0 cx1_0_1 cx1_0_2 cx1_0_3 lx1_0_0 lx1_0_1 lx1_0_2 lx1_0_3 cx1_1_0 cx1_1_1 cx1_1_2 cx1_1_3 lx1_1_0 lx1_1_1 lx1_1_2 lx1_1_3
  intro y2 w2 kq2 hbl2 lw2 how hrr hfl hds
  replace h := h.keep kq2
  replace h' := h'.keep kq2
  obtain ⟨_, z2_0, ez, _⟩ := how _ (List.Mem.head _)
  obtain rfl := ez (by simp)
  dsimp only at z2_0
  obtain ⟨_, z2_1, ez, _⟩ := how _ (List.Mem.tail _ (List.Mem.head _))
  obtain rfl := ez (by simp)
  dsimp only at z2_1
  obtain ⟨_, z2_2, ez, _⟩ := how _ (List.Mem.tail _ (List.Mem.tail _ (List.Mem.head _)))
  obtain rfl := ez (by simp)
  dsimp only at z2_2
  obtain ⟨_, z2_3, ez, _⟩ := how _ (List.Mem.tail _ (List.Mem.tail _ (List.Mem.tail _ (List.Mem.head _))))
  obtain rfl := ez (by simp)
  dsimp only at z2_3
  obtain ⟨g7_2, _, eg7_2, Gg7_2, xg7_2, ⟨b4, A4, n4, c4, A'4, n'4, c'4, x4, rfl, h4⟩⟩ := hfl _ (List.Mem.head _)
  dsimp only at eg7_2 Gg7_2 xg7_2
  have lgg7_2 : g7_2 < w2.heap.size := xg7_2.lt
  (try dsimp only)
  simp only [eg7_2]
  clear hrr hfl how hds eg7_2
  clear x1_0 x1_1 x1_2 x1_3
  have bw2 : Below w.heap.size w w2 := bw1.trans hbl2
  clear bw1
  go_wp2_with fail
  obtain rfl : x4 = false := h4.2.1.trans HH.out
  (with_reducible refine (t_half _).mono ?_); rintro e w6 ⟨b6, A6, n6, c6, A'6, n'6, c'6, x6, rfl, h6, hb6⟩
  have q6 : Below w2.heap.size w2 w6 := hb6
  replace h := h.belw q6
  replace h' := h'.belw q6
  replace h4 := h4.belw q6
  replace z2_0 : Blk w6 (w.heap.size) 26 #[.bool b, .slice A n c, .slice D m e, .bool x] := z2_0.below q6 z2_0.lt
  replace z2_1 : Blk w6 (w.heap.size + 1) 26 #[.bool b', .slice A' n' c', .slice D' m' e', .bool x'] := z2_1.below q6 z2_1.lt
  replace z2_2 : Blk w6 (w.heap.size + 1 + 1) 26 #[.bool false, .slice none 0 0, .slice none 0 0, .bool false] := z2_2.below q6 z2_2.lt
  replace z2_3 : Blk w6 (w.heap.size + 1 + 1 + 1) 26 #[.bool b, .slice A n c, .slice D m e, .bool x, .bool b', .slice A' n' c', .slice D' m' e', .bool x'] := z2_3.below q6 z2_3.lt
  replace xg7_2 : Blk w6 (g7_2) 26 #[.bool b4, .slice A4 n4 c4, .slice A'4 n'4 c'4, .bool false] := xg7_2.below q6 xg7_2.lt
  have bw6 : Below w.heap.size w w6 := bw2.trans (q6.mono bw2.size)
  have lw6 : w2.heap.size ≤ w6.heap.size := q6.size
  clear hb6 q6 bw2
  have cxg7_2_0 : w6.cell? ⟨g7_2, 0, none⟩ = some (.bool b4) := xg7_2.cell 0
  have cxg7_2_1 : w6.cell? ⟨g7_2, 1, none⟩ = some (.slice A4 n4 c4) := xg7_2.cell 1
  have cxg7_2_2 : w6.cell? ⟨g7_2, 2, none⟩ = some (.slice A'4 n'4 c'4) := xg7_2.cell 2
  have cxg7_2_3 : w6.cell? ⟨g7_2, 3, none⟩ = some (.bool false) := xg7_2.cell 3
  have lxg7_2_0 : g7_2 < w6.heap.size := by have := xg7_2.lt; omega
  have lxg7_2_1 : g7_2 < w6.heap.size + 1 := by have := xg7_2.lt; omega
  have lxg7_2_2 : g7_2 < w6.heap.size + 2 := by have := xg7_2.lt; omega
  have lxg7_2_3 : g7_2 < w6.heap.size + 3 := by have := xg7_2.lt; omega
  go_wp2_with fail
  (with_reducible refine (f_sign_e _ b4 A4 n4 c4 A'4 n'4 c'4 ((tadd ((t')) ((tneg ((t))))).t) (2 * ((k')) + 2 * (((k))) + 3) ?_ (s) ?_ ?_ ?_).mono ?_); (exact (h4.belw ((Below.refl _ _).alloc (Nat.le_refl _) _)).qz); (exact HS.out); (first | omega | decide | assumption); (first | omega | decide | assumption); rintro e w7 ⟨rfl, hb7⟩
  clear cxg7_2_0 cxg7_2_1 cxg7_2_2 cxg7_2_3 lxg7_2_0 lxg7_2_1 lxg7_2_2 lxg7_2_3
  have q7 : Below w6.heap.size w6 w7 := ((Below.refl _ _).alloc (Nat.le_refl _) _).trans (hb7.mono (by simp))
  replace h := h.belw q7
  replace h' := h'.belw q7
  replace h4 := h4.belw q7
  replace h6 := h6.belw q7
  replace z2_0 : Blk w7 (w.heap.size) 26 #[.bool b, .slice A n c, .slice D m e, .bool x] := z2_0.below q7 z2_0.lt
  replace z2_1 : Blk w7 (w.heap.size + 1) 26 #[.bool b', .slice A' n' c', .slice D' m' e', .bool x'] := z2_1.below q7 z2_1.lt
  replace z2_2 : Blk w7 (w.heap.size + 1 + 1) 26 #[.bool false, .slice none 0 0, .slice none 0 0, .bool false] := z2_2.below q7 z2_2.lt
  replace z2_3 : Blk w7 (w.heap.size + 1 + 1 + 1) 26 #[.bool b, .slice A n c, .slice D m e, .bool x, .bool b', .slice A' n' c', .slice D' m' e', .bool x'] := z2_3.below q7 z2_3.lt
  replace xg7_2 : Blk w7 (g7_2) 26 #[.bool b4, .slice A4 n4 c4, .slice A'4 n'4 c'4, .bool false] := xg7_2.below q7 xg7_2.lt
  have x7_0 : Blk w7 (w6.heap.size) 26 #[.bool b6, .slice A6 n6 c6, .slice A'6 n'6 c'6, .bool x6] := (blkAt _ _ _ (by simp)).below hb7 (by simp)
  have bw7 : Below w.heap.size w w7 := bw6.trans (q7.mono bw6.size)
  have lw7 : w6.heap.size + 1 ≤ w7.heap.size := by have := hb7.size; simp at this; omega
  clear hb7 q7 bw6
  have lz2_0_0 : w.heap.size < w7.heap.size := by have := z2_0.lt; omega
  have lz2_0_1 : w.heap.size < w7.heap.size + 1 := by have := z2_0.lt; omega
  have lz2_0_2 : w.heap.size < w7.heap.size + 2 := by have := z2_0.lt; omega
  have lz2_0_3 : w.heap.size < w7.heap.size + 3 := by have := z2_0.lt; omega
  have lz2_1_0 : w.heap.size + 1 < w7.heap.size := by have := z2_1.lt; omega
  have lz2_1_1 : w.heap.size < w7.heap.size := by have := z2_1.lt; omega
  have lz2_1_2 : w.heap.size < w7.heap.size + 1 := by have := z2_1.lt; omega
  have lz2_1_3 : w.heap.size < w7.heap.size + 2 := by have := z2_1.lt; omega
  have lz2_2_0 : w.heap.size + 2 < w7.heap.size := by have := z2_2.lt; omega
  have lz2_2_1 : w.heap.size + 1 < w7.heap.size := by have := z2_2.lt; omega
  have lz2_2_2 : w.heap.size < w7.heap.size := by have := z2_2.lt; omega
  have lz2_2_3 : w.heap.size < w7.heap.size + 1 := by have := z2_2.lt; omega
  have lz2_3_0 : w.heap.size + 3 < w7.heap.size := by have := z2_3.lt; omega
  have lz2_3_1 : w.heap.size + 2 < w7.heap.size := by have := z2_3.lt; omega
  have lz2_3_2 : w.heap.size + 1 < w7.heap.size := by have := z2_3.lt; omega
  have lz2_3_3 : w.heap.size < w7.heap.size := by have := z2_3.lt; omega
  have cxg7_2_0 : w7.cell? ⟨g7_2, 0, none⟩ = some (.bool b4) := xg7_2.cell 0
  have cxg7_2_1 : w7.cell? ⟨g7_2, 1, none⟩ = some (.slice A4 n4 c4) := xg7_2.cell 1
  have cxg7_2_2 : w7.cell? ⟨g7_2, 2, none⟩ = some (.slice A'4 n'4 c'4) := xg7_2.cell 2
  have cxg7_2_3 : w7.cell? ⟨g7_2, 3, none⟩ = some (.bool false) := xg7_2.cell 3
  have lxg7_2_0 : g7_2 < w7.heap.size := by have := xg7_2.lt; omega
  have lxg7_2_1 : g7_2 < w7.heap.size + 1 := by have := xg7_2.lt; omega
  have lxg7_2_2 : g7_2 < w7.heap.size + 2 := by have := xg7_2.lt; omega
  have lxg7_2_3 : g7_2 < w7.heap.size + 3 := by have := xg7_2.lt; omega
  have cx7_0_0 : w7.cell? ⟨w6.heap.size, 0, none⟩ = some (.bool b6) := x7_0.cell 0
  have fx7_0_0 : w7.frozen? ⟨w6.heap.size, 0, none⟩ = false := x7_0.frozen 0
  have cx7_0_1 : w7.cell? ⟨w6.heap.size, 1, none⟩ = some (.slice A6 n6 c6) := x7_0.cell 1
  have fx7_0_1 : w7.frozen? ⟨w6.heap.size, 1, none⟩ = false := x7_0.frozen 1
  have cx7_0_2 : w7.cell? ⟨w6.heap.size, 2, none⟩ = some (.slice A'6 n'6 c'6) := x7_0.cell 2
  have fx7_0_2 : w7.frozen? ⟨w6.heap.size, 2, none⟩ = false := x7_0.frozen 2
  have cx7_0_3 : w7.cell? ⟨w6.heap.size, 3, none⟩ = some (.bool x6) := x7_0.cell 3
  have fx7_0_3 : w7.frozen? ⟨w6.heap.size, 3, none⟩ = false := x7_0.frozen 3
  have lx7_0_0 : w6.heap.size < w7.heap.size := by have := x7_0.lt; omega
  have lx7_0_1 : w6.heap.size < w7.heap.size + 1 := by have := x7_0.lt; omega
  have lx7_0_2 : w6.heap.size < w7.heap.size + 2 := by have := x7_0.lt; omega
  have lx7_0_3 : w6.heap.size < w7.heap.size + 3 := by have := x7_0.lt; omega
  go_wp2_with fail
  have nfz2_0_0 : ¬ w.heap.size = w6.heap.size := by omega
  have nez2_0_0 : ¬ w.heap.size = w6.heap.size := by omega
  have nfz2_1_0 : ¬ w.heap.size + 1 = w6.heap.size := by omega
  have nez2_1_0 : ¬ w.heap.size + 1 = w6.heap.size := by omega
  have nfz2_2_0 : ¬ w.heap.size + 1 + 1 = w6.heap.size := by omega
  have nez2_2_0 : ¬ w.heap.size + 2 = w6.heap.size := by omega
  have nfz2_3_0 : ¬ w.heap.size + 1 + 1 + 1 = w6.heap.size := by omega
  have nez2_3_0 : ¬ w.heap.size + 3 = w6.heap.size := by omega
  have nfxg7_2_0 : ¬ g7_2 = w6.heap.size := by omega
  have nexg7_2_0 : ¬ g7_2 = w6.heap.size := by omega
  go_region_held3 (fun w' => SeesX w7.heap.size (w6.heap.size) w7 w') (first | with_reducible exact SeesX.of (Nat.le_refl _) (by assumption) | with_reducible exact SeesX.of (Nat.le_refl _) (brefl _).drew | with_reducible exact (SeesX.set (SeesX.set (SeesX.set (SeesX.set (SeesX.of (Nat.le_refl _) (by assumption)))))) | with_reducible exact (SeesX.set (SeesX.set (SeesX.set (SeesX.of (Nat.le_refl _) (by assumption))))) | with_reducible exact (SeesX.set (SeesX.set (SeesX.of (Nat.le_refl _) (by assumption)))) | with_reducible exact (SeesX.set (SeesX.of (Nat.le_refl _) (by assumption))) | exact SeesX.of (Nat.le_refl _) (below_drewN (brefl _) 1) | exact SeesX.of (Nat.le_refl _) (below_drewN (by assumption) _))
    (first
      | (go_at_call 19; (with_reducible refine (f_of _ (2) ?_ ?_).mono ?_); (first | omega | decide | assumption); (first | omega | decide | assumption); rintro e w8 ⟨b8, A8, n8, c8, A'8, n'8, c'8, rfl, h8, hb8⟩; replace hb8 := bnext (below_drewN (brefl _) 1) hb8; have q8 : Below w7.heap.size w7 w8 := bnext (brefl w7) hb8; replace h := h.belw hb8; replace h' := h'.belw hb8; replace h4 := h4.belw hb8; replace h6 := h6.belw hb8)
      | (go_at_call 44; (with_reducible refine (t_over _ b4 A4 n4 c4 A'4 n'4 c'4 ((tadd ((t')) ((tneg ((t))))).t) (2 * ((k')) + 2 * (((k))) + 3) ?_ b8 A8 n8 c8 A'8 n'8 c'8 (((2 : Int) : Rat)) (1) ?_ ?_ ?_ ?_ ?_ ?_).mono ?_); (exact h4.qz); (exact h8.qz); (first | omega | decide | assumption); (first | omega | decide | assumption); (first | omega | decide | assumption); (first | omega | decide | assumption); (decide); rintro e w9 ⟨b9, A9, n9, c9, A'9, n'9, c'9, rfl, h9, hb9⟩; have q9 : Below w7.heap.size w7 w9 := bnext q8 hb9; replace h := h.belw hb9; replace h' := h'.belw hb9; replace h4 := h4.belw hb9; replace h6 := h6.belw hb9; replace h8 := h8.belw hb9; have x7_0 : Blk w9 (w6.heap.size) 26 #[.bool b6, .slice A6 n6 c6, .slice A'6 n'6 c'6, .bool x6] := x7_0.below q9 x7_0.lt; have cx7_0_0 : w9.cell? ⟨w6.heap.size, 0, none⟩ = some (.bool b6) := x7_0.cell 0; have cx7_0_1 : w9.cell? ⟨w6.heap.size, 1, none⟩ = some (.slice A6 n6 c6) := x7_0.cell 1; have cx7_0_2 : w9.cell? ⟨w6.heap.size, 2, none⟩ = some (.slice A'6 n'6 c'6) := x7_0.cell 2; have cx7_0_3 : w9.cell? ⟨w6.heap.size, 3, none⟩ = some (.bool x6) := x7_0.cell 3; have fx7_0_0 : w9.frozen? ⟨w6.heap.size, 0, none⟩ = false := x7_0.frozen 0; have fx7_0_1 : w9.frozen? ⟨w6.heap.size, 1, none⟩ = false := x7_0.frozen 1; have fx7_0_2 : w9.frozen? ⟨w6.heap.size, 2, none⟩ = false := x7_0.frozen 2; have fx7_0_3 : w9.frozen? ⟨w6.heap.size, 3, none⟩ = false := x7_0.frozen 3))
  have bw9 : Below w.heap.size w w9 := bw7.trans (q9.mono bw7.size)
  clear lz2_0_0 lz2_0_1 lz2_0_2 lz2_0_3 lz2_1_0 lz2_1_1 lz2_1_2 lz2_1_3 lz2_2_0 lz2_2_1 lz2_2_2 lz2_2_3 lz2_3_0 lz2_3_1 lz2_3_2 lz2_3_3 cxg7_2_0 cxg7_2_1 cxg7_2_2 cxg7_2_3 lxg7_2_0 lxg7_2_1 lxg7_2_2 lxg7_2_3 cx7_0_0 fx7_0_0 cx7_0_1 fx7_0_1 cx7_0_2 fx7_0_2 cx7_0_3 fx7_0_3 lx7_0_0 lx7_0_1 lx7_0_2 lx7_0_3
  replace z2_0 : Blk w9 (w.heap.size) 26 #[.bool b, .slice A n c, .slice D m e, .bool x] := z2_0.below q9 z2_0.lt
  replace z2_1 : Blk w9 (w.heap.size + 1) 26 #[.bool b', .slice A' n' c', .slice D' m' e', .bool x'] := z2_1.below q9 z2_1.lt
  replace z2_2 : Blk w9 (w.heap.size + 1 + 1) 26 #[.bool false, .slice none 0 0, .slice none 0 0, .bool false] := z2_2.below q9 z2_2.lt
  replace z2_3 : Blk w9 (w.heap.size + 1 + 1 + 1) 26 #[.bool b, .slice A n c, .slice D m e, .bool x, .bool b', .slice A' n' c', .slice D' m' e', .bool x'] := z2_3.below q9 z2_3.lt
  replace xg7_2 : Blk w9 (g7_2) 26 #[.bool b4, .slice A4 n4 c4, .slice A'4 n'4 c'4, .bool false] := xg7_2.below q9 xg7_2.lt
  have lw9 : w7.heap.size ≤ w9.heap.size := q9.size
  have cz2_0_0 : w9.cell? ⟨w.heap.size, 0, none⟩ = some (.bool b) := z2_0.cell 0
  have cz2_0_1 : w9.cell? ⟨w.heap.size, 1, none⟩ = some (.slice A n c) := z2_0.cell 1
  have cz2_0_2 : w9.cell? ⟨w.heap.size, 2, none⟩ = some (.slice D m e) := z2_0.cell 2
  have cz2_0_3 : w9.cell? ⟨w.heap.size, 3, none⟩ = some (.bool x) := z2_0.cell 3
  have lz2_0_0 : w.heap.size < w9.heap.size := by have := z2_0.lt; omega
  have lz2_0_1 : w.heap.size < w9.heap.size + 1 := by have := z2_0.lt; omega
  have lz2_0_2 : w.heap.size < w9.heap.size + 2 := by have := z2_0.lt; omega
  have lz2_0_3 : w.heap.size < w9.heap.size + 3 := by have := z2_0.lt; omega
  have cx7_0_0 : w9.cell? ⟨w6.heap.size, 0, none⟩ = some (.bool b6) := x7_0.cell 0
  have fx7_0_0 : w9.frozen? ⟨w6.heap.size, 0, none⟩ = false := x7_0.frozen 0
  have cx7_0_1 : w9.cell? ⟨w6.heap.size, 1, none⟩ = some (.slice A6 n6 c6) := x7_0.cell 1
  have fx7_0_1 : w9.frozen? ⟨w6.heap.size, 1, none⟩ = false := x7_0.frozen 1
  have cx7_0_2 : w9.cell? ⟨w6.heap.size, 2, none⟩ = some (.slice A'6 n'6 c'6) := x7_0.cell 2
  have fx7_0_2 : w9.frozen? ⟨w6.heap.size, 2, none⟩ = false := x7_0.frozen 2
  have cx7_0_3 : w9.cell? ⟨w6.heap.size, 3, none⟩ = some (.bool x6) := x7_0.cell 3
  have fx7_0_3 : w9.frozen? ⟨w6.heap.size, 3, none⟩ = false := x7_0.frozen 3
  have lx7_0_0 : w6.heap.size < w9.heap.size := by have := x7_0.lt; omega
  have lx7_0_1 : w6.heap.size < w9.heap.size + 1 := by have := x7_0.lt; omega
  have lx7_0_2 : w6.heap.size < w9.heap.size + 2 := by have := x7_0.lt; omega
  have lx7_0_3 : w6.heap.size < w9.heap.size + 3 := by have := x7_0.lt; omega
  go_wp2_with fail
  have hF := TV.frac h9
  clear cz2_0_0 cz2_0_1 cz2_0_2 cz2_0_3 lz2_0_0 lz2_0_1 lz2_0_2 lz2_0_3 cx7_0_0 fx7_0_0 cx7_0_1 fx7_0_1 cx7_0_2 fx7_0_2 cx7_0_3 fx7_0_3 lx7_0_0 lx7_0_1 lx7_0_2 lx7_0_3
  have p10 : Kp w9 ((((w9.setCell ⟨w6.heap.size, 0, none⟩ (.bool b9)).setCell ⟨w6.heap.size, 1, none⟩ (.slice A9 n9 c9)).setCell ⟨w6.heap.size, 2, none⟩ (.slice A'9 n'9 c'9)).setCell ⟨w6.heap.size, 3, none⟩ (.bool false)) := (((((Kp.refl w9).setB (p := ⟨w6.heap.size, 0, none⟩) x7_0.box (by decide) (.bool b9)).setB (p := ⟨w6.heap.size, 1, none⟩) (x7_0.box.set ⟨w6.heap.size, 0, none⟩ (.bool b9)) (by decide) (.slice A9 n9 c9)).setB (p := ⟨w6.heap.size, 2, none⟩) ((x7_0.box.set ⟨w6.heap.size, 0, none⟩ (.bool b9)).set ⟨w6.heap.size, 1, none⟩ (.slice A9 n9 c9)) (by decide) (.slice A'9 n'9 c'9)).setB (p := ⟨w6.heap.size, 3, none⟩) (((x7_0.box.set ⟨w6.heap.size, 0, none⟩ (.bool b9)).set ⟨w6.heap.size, 1, none⟩ (.slice A9 n9 c9)).set ⟨w6.heap.size, 2, none⟩ (.slice A'9 n'9 c'9)) (by decide) (.bool false))
  have bw10 : Below w.heap.size w ((((w9.setCell ⟨w6.heap.size, 0, none⟩ (.bool b9)).setCell ⟨w6.heap.size, 1, none⟩ (.slice A9 n9 c9)).setCell ⟨w6.heap.size, 2, none⟩ (.slice A'9 n'9 c'9)).setCell ⟨w6.heap.size, 3, none⟩ (.bool false)) := ((((bw9.setCell (p := ⟨w6.heap.size, 0, none⟩) (by dsimp only; omega) (.bool b9)).setCell (p := ⟨w6.heap.size, 1, none⟩) (by dsimp only; omega) (.slice A9 n9 c9)).setCell (p := ⟨w6.heap.size, 2, none⟩) (by dsimp only; omega) (.slice A'9 n'9 c'9)).setCell (p := ⟨w6.heap.size, 3, none⟩) (by dsimp only; omega) (.bool false))
  replace z2_0 : Blk ((((w9.setCell ⟨w6.heap.size, 0, none⟩ (.bool b9)).setCell ⟨w6.heap.size, 1, none⟩ (.slice A9 n9 c9)).setCell ⟨w6.heap.size, 2, none⟩ (.slice A'9 n'9 c'9)).setCell ⟨w6.heap.size, 3, none⟩ (.bool false)) (w.heap.size) 26 #[.bool b, .slice A n c, .slice D m e, .bool x] := ((((z2_0.far (p := ⟨w6.heap.size, 0, none⟩) (by dsimp only; omega) (.bool b9)).far (p := ⟨w6.heap.size, 1, none⟩) (by dsimp only; omega) (.slice A9 n9 c9)).far (p := ⟨w6.heap.size, 2, none⟩) (by dsimp only; omega) (.slice A'9 n'9 c'9)).far (p := ⟨w6.heap.size, 3, none⟩) (by dsimp only; omega) (.bool false))
  replace z2_1 : Blk ((((w9.setCell ⟨w6.heap.size, 0, none⟩ (.bool b9)).setCell ⟨w6.heap.size, 1, none⟩ (.slice A9 n9 c9)).setCell ⟨w6.heap.size, 2, none⟩ (.slice A'9 n'9 c'9)).setCell ⟨w6.heap.size, 3, none⟩ (.bool false)) (w.heap.size + 1) 26 #[.bool b', .slice A' n' c', .slice D' m' e', .bool x'] := ((((z2_1.far (p := ⟨w6.heap.size, 0, none⟩) (by dsimp only; omega) (.bool b9)).far (p := ⟨w6.heap.size, 1, none⟩) (by dsimp only; omega) (.slice A9 n9 c9)).far (p := ⟨w6.heap.size, 2, none⟩) (by dsimp only; omega) (.slice A'9 n'9 c'9)).far (p := ⟨w6.heap.size, 3, none⟩) (by dsimp only; omega) (.bool false))
  replace z2_2 : Blk ((((w9.setCell ⟨w6.heap.size, 0, none⟩ (.bool b9)).setCell ⟨w6.heap.size, 1, none⟩ (.slice A9 n9 c9)).setCell ⟨w6.heap.size, 2, none⟩ (.slice A'9 n'9 c'9)).setCell ⟨w6.heap.size, 3, none⟩ (.bool false)) (w.heap.size + 1 + 1) 26 #[.bool false, .slice none 0 0, .slice none 0 0, .bool false] := ((((z2_2.far (p := ⟨w6.heap.size, 0, none⟩) (by dsimp only; omega) (.bool b9)).far (p := ⟨w6.heap.size, 1, none⟩) (by dsimp only; omega) (.slice A9 n9 c9)).far (p := ⟨w6.heap.size, 2, none⟩) (by dsimp only; omega) (.slice A'9 n'9 c'9)).far (p := ⟨w6.heap.size, 3, none⟩) (by dsimp only; omega) (.bool false))
  replace z2_3 : Blk ((((w9.setCell ⟨w6.heap.size, 0, none⟩ (.bool b9)).setCell ⟨w6.heap.size, 1, none⟩ (.slice A9 n9 c9)).setCell ⟨w6.heap.size, 2, none⟩ (.slice A'9 n'9 c'9)).setCell ⟨w6.heap.size, 3, none⟩ (.bool false)) (w.heap.size + 1 + 1 + 1) 26 #[.bool b, .slice A n c, .slice D m e, .bool x, .bool b', .slice A' n' c', .slice D' m' e', .bool x'] := ((((z2_3.far (p := ⟨w6.heap.size, 0, none⟩) (by dsimp only; omega) (.bool b9)).far (p := ⟨w6.heap.size, 1, none⟩) (by dsimp only; omega) (.slice A9 n9 c9)).far (p := ⟨w6.heap.size, 2, none⟩) (by dsimp only; omega) (.slice A'9 n'9 c'9)).far (p := ⟨w6.heap.size, 3, none⟩) (by dsimp only; omega) (.bool false))
  replace xg7_2 : Blk ((((w9.setCell ⟨w6.heap.size, 0, none⟩ (.bool b9)).setCell ⟨w6.heap.size, 1, none⟩ (.slice A9 n9 c9)).setCell ⟨w6.heap.size, 2, none⟩ (.slice A'9 n'9 c'9)).setCell ⟨w6.heap.size, 3, none⟩ (.bool false)) (g7_2) 26 #[.bool b4, .slice A4 n4 c4, .slice A'4 n'4 c'4, .bool false] := ((((xg7_2.far (p := ⟨w6.heap.size, 0, none⟩) (by dsimp only; omega) (.bool b9)).far (p := ⟨w6.heap.size, 1, none⟩) (by dsimp only; omega) (.slice A9 n9 c9)).far (p := ⟨w6.heap.size, 2, none⟩) (by dsimp only; omega) (.slice A'9 n'9 c'9)).far (p := ⟨w6.heap.size, 3, none⟩) (by dsimp only; omega) (.bool false))
  replace x7_0 : Blk ((((w9.setCell ⟨w6.heap.size, 0, none⟩ (.bool b9)).setCell ⟨w6.heap.size, 1, none⟩ (.slice A9 n9 c9)).setCell ⟨w6.heap.size, 2, none⟩ (.slice A'9 n'9 c'9)).setCell ⟨w6.heap.size, 3, none⟩ (.bool false)) (w6.heap.size) 26 #[.bool b9, .slice A9 n9 c9, .slice A'9 n'9 c'9, .bool false] := ((((x7_0.set_at 0 (.bool b9) #[.bool b9, .slice A6 n6 c6, .slice A'6 n'6 c'6, .bool x6] (by simp)).set_at 1 (.slice A9 n9 c9) #[.bool b9, .slice A9 n9 c9, .slice A'6 n'6 c'6, .bool x6] (by simp)).set_at 2 (.slice A'9 n'9 c'9) #[.bool b9, .slice A9 n9 c9, .slice A'9 n'9 c'9, .bool x6] (by simp)).set_at 3 (.bool false) #[.bool b9, .slice A9 n9 c9, .slice A'9 n'9 c'9, .bool false] (by simp))
  have lw10 : w9.heap.size + 0 ≤ ((((w9.setCell ⟨w6.heap.size, 0, none⟩ (.bool b9)).setCell ⟨w6.heap.size, 1, none⟩ (.slice A9 n9 c9)).setCell ⟨w6.heap.size, 2, none⟩ (.slice A'9 n'9 c'9)).setCell ⟨w6.heap.size, 3, none⟩ (.bool false)).heap.size := by simp
  generalize hE10 : ((((w9.setCell ⟨w6.heap.size, 0, none⟩ (.bool b9)).setCell ⟨w6.heap.size, 1, none⟩ (.slice A9 n9 c9)).setCell ⟨w6.heap.size, 2, none⟩ (.slice A'9 n'9 c'9)).setCell ⟨w6.heap.size, 3, none⟩ (.bool false)) = w10 at p10 bw10 lw10 z2_0 z2_1 z2_2 z2_3 xg7_2 x7_0 ⊢
  clear hE10
  replace h := h.keep p10
  replace h' := h'.keep p10
  replace h4 := h4.keep p10
  replace h6 := h6.keep p10
  replace h8 := h8.keep p10
  replace h9 := h9.keep p10
  replace hF := hF.keep p10
  clear bw9
  (with_reducible refine (t_add _ b A n c D m e x (t) (k) ?_ b9 A9 n9 c9 A'9 n'9 c'9 false (⟨((tadd ((t')) ((tneg ((t))))).t) / (((2 : Int) : Rat)), false⟩) ((2 * ((k')) + 2 * (((k))) + 3) + (1)) ?_ ?_ ?_ ?_ ?_).mono ?_); (exact h); (exact hF.tk); (first | omega | decide | assumption); (first | omega | decide | assumption); (first | omega | decide | assumption); (first | omega | decide | assumption); rintro e w11 ⟨b11, A11, n11, c11, A'11, n'11, c'11, x11, rfl, h11, hb11⟩
  have q11 : Below w10.heap.size w10 w11 := hb11
  replace h := h.belw q11
  replace h' := h'.belw q11
  replace h4 := h4.belw q11
  replace h6 := h6.belw q11
  replace h8 := h8.belw q11
  replace h9 := h9.belw q11
  replace hF := hF.belw q11
  replace z2_0 : Blk w11 (w.heap.size) 26 #[.bool b, .slice A n c, .slice D m e, .bool x] := z2_0.below q11 z2_0.lt
  replace z2_1 : Blk w11 (w.heap.size + 1) 26 #[.bool b', .slice A' n' c', .slice D' m' e', .bool x'] := z2_1.below q11 z2_1.lt
  replace z2_2 : Blk w11 (w.heap.size + 1 + 1) 26 #[.bool false, .slice none 0 0, .slice none 0 0, .bool false] := z2_2.below q11 z2_2.lt
  replace z2_3 : Blk w11 (w.heap.size + 1 + 1 + 1) 26 #[.bool b, .slice A n c, .slice D m e, .bool x, .bool b', .slice A' n' c', .slice D' m' e', .bool x'] := z2_3.below q11 z2_3.lt
  replace xg7_2 : Blk w11 (g7_2) 26 #[.bool b4, .slice A4 n4 c4, .slice A'4 n'4 c'4, .bool false] := xg7_2.below q11 xg7_2.lt
  replace x7_0 : Blk w11 (w6.heap.size) 26 #[.bool b9, .slice A9 n9 c9, .slice A'9 n'9 c'9, .bool false] := x7_0.below q11 x7_0.lt
  have bw11 : Below w.heap.size w w11 := bw10.trans (q11.mono bw10.size)
  have lw11 : w10.heap.size ≤ w11.heap.size := q11.size
  clear hb11 q11 bw10
  have cz2_2_0 : w11.cell? ⟨w.heap.size + 1 + 1, 0, none⟩ = some (.bool false) := z2_2.cell 0
  have fz2_2_0 : w11.frozen? ⟨w.heap.size + 1 + 1, 0, none⟩ = false := z2_2.frozen 0
  have cz2_2_1 : w11.cell? ⟨w.heap.size + 1 + 1, 1, none⟩ = some (.slice none 0 0) := z2_2.cell 1
  have fz2_2_1 : w11.frozen? ⟨w.heap.size + 1 + 1, 1, none⟩ = false := z2_2.frozen 1
  have cz2_2_2 : w11.cell? ⟨w.heap.size + 1 + 1, 2, none⟩ = some (.slice none 0 0) := z2_2.cell 2
  have fz2_2_2 : w11.frozen? ⟨w.heap.size + 1 + 1, 2, none⟩ = false := z2_2.frozen 2
  have cz2_2_3 : w11.cell? ⟨w.heap.size + 1 + 1, 3, none⟩ = some (.bool false) := z2_2.cell 3
  have fz2_2_3 : w11.frozen? ⟨w.heap.size + 1 + 1, 3, none⟩ = false := z2_2.frozen 3
  have lz2_2_0 : w.heap.size + 2 < w11.heap.size := by have := z2_2.lt; omega
  have lz2_2_1 : w.heap.size + 1 < w11.heap.size := by have := z2_2.lt; omega
  have lz2_2_2 : w.heap.size < w11.heap.size := by have := z2_2.lt; omega
  have lz2_2_3 : w.heap.size < w11.heap.size + 1 := by have := z2_2.lt; omega
  go_wp2_with fail
  rw [HT.out]
  refine bodyPost_ret (v := .tuple #[.agg #[.bool b11, .slice A11 n11 c11, .slice A'11 n'11 c'11, .bool x11], .nilIface]) (by simp [results, Try.results21, go_sem, *] <;> first | rfl | exact ⟨rfl, rfl⟩) rfl ?_
  have kp := (((((Kp.refl w11).setB (p := ⟨w.heap.size + 1 + 1, 0, none⟩) z2_2.box (by decide) (.bool b11)).setB (p := ⟨w.heap.size + 1 + 1, 1, none⟩) (z2_2.box.set ⟨w.heap.size + 1 + 1, 0, none⟩ (.bool b11)) (by decide) (.slice A11 n11 c11)).setB (p := ⟨w.heap.size + 1 + 1, 2, none⟩) ((z2_2.box.set ⟨w.heap.size + 1 + 1, 0, none⟩ (.bool b11)).set ⟨w.heap.size + 1 + 1, 1, none⟩ (.slice A11 n11 c11)) (by decide) (.slice A'11 n'11 c'11)).setB (p := ⟨w.heap.size + 1 + 1, 3, none⟩) (((z2_2.box.set ⟨w.heap.size + 1 + 1, 0, none⟩ (.bool b11)).set ⟨w.heap.size + 1 + 1, 1, none⟩ (.slice A11 n11 c11)).set ⟨w.heap.size + 1 + 1, 2, none⟩ (.slice A'11 n'11 c'11)) (by decide) (.bool x11))
  exact ⟨b11, A11, n11, c11, A'11, n'11, c'11, x11, rfl, (h11.keep kp).mono (by omega), ((((bw11.setCell (p := ⟨w.heap.size + 1 + 1, 0, none⟩) (by dsimp only; omega) (.bool b11)).setCell (p := ⟨w.heap.size + 1 + 1, 1, none⟩) (by dsimp only; omega) (.slice A11 n11 c11)).setCell (p := ⟨w.heap.size + 1 + 1, 2, none⟩) (by dsimp only; omega) (.slice A'11 n'11 c'11)).setCell (p := ⟨w.heap.size + 1 + 1, 3, none⟩) (by dsimp only; omega) (.bool x11))⟩
set_option maxRecDepth 100000 in
set_option maxHeartbeats 4000000 in
/-- turn.Between -/
theorem t_Between_n (w : World) (b : Bool) (A : Option Addr) (n c : Nat) (D : Option Addr) (m e : Nat) (x : Bool) (t : TN) (k : Nat) (h : TK w b A n c D m e x t k) (b' : Bool) (A' : Option Addr) (n' c' : Nat) (D' : Option Addr) (m' e' : Nat) (x' : Bool) (t' : TN) (k' : Nat) (h' : TK w b' A' n' c' D' m' e' x' t' k') (h0 : 0 < k) (hk : k ≤ 50000) (h0' : 0 < k') (hk' : k' ≤ 50000) (hh : (tadd t' (tneg t)).h = false) (s : Int) (hs : (tadd t' (tneg t)).t.num.sign = s) (hp : ¬ 0 < (tadd t' (tneg t)).t) (hp2 : ¬ 0 < s) :
    Calls Try.prog 21 #[.agg #[.bool b, .slice A n c, .slice D m e, .bool x], .agg #[.bool b', .slice A' n' c', .slice D' m' e', .bool x']] w (RetTe w .nilIface (tbetween t t') (6 * k + 4 * k' + 20)) := by
  have HT := Lib.hid (show tbetween t t' = tadd t thalf by unfold tbetween; rw [if_neg (by rw [hh]; decide), if_neg hp])
  have HH := Lib.hid hh
  have HS := Lib.hid hs
  have e0 : decide (s > 0) = false := by simp; omega
  clear hh hs hp hp2
  go_enter Try.func21, Try.ntmps21
  go_wp2_with fail
  (with_reducible refine (t_checkAll _ (w.heap.size + 1 + 1 + 1) 2 ((k) + (k')) ?_ ?_ ?_ ?_).mono ?_); (exact ts2 (blkAt _ _ _ (by simp)) ((h.belw (((((Below.refl _ _).alloc (Nat.le_refl _) _).alloc (by simp) _).alloc (by simp <;> omega) _).alloc (by simp <;> omega) _)).mono (by omega)) ((h'.belw (((((Below.refl _ _).alloc (Nat.le_refl _) _).alloc (by simp) _).alloc (by simp <;> omega) _).alloc (by simp <;> omega) _)).mono (by omega))); (decide); (omega); (omega); rintro e w1 ⟨rfl, hb1⟩
  have q1 : Below w.heap.size w w1 := (((((Below.refl _ _).alloc (Nat.le_refl _) _).alloc (by simp) _).alloc (by simp <;> omega) _).alloc (by simp <;> omega) _).trans (hb1.mono (by simp <;> omega))
  replace h := h.belw q1
  replace h' := h'.belw q1
  have x1_0 : Blk w1 (w.heap.size) 26 #[.bool b, .slice A n c, .slice D m e, .bool x] := ((((blkAt _ _ _ (by simp)).alloc _).alloc _).alloc _).below hb1 (by simp <;> omega)
  have x1_1 : Blk w1 (w.heap.size + 1) 26 #[.bool b', .slice A' n' c', .slice D' m' e', .bool x'] := (((blkAt _ _ _ (by simp)).alloc _).alloc _).below hb1 (by simp <;> omega)
  have x1_2 : Blk w1 (w.heap.size + 1 + 1) 26 #[.bool false, .slice none 0 0, .slice none 0 0, .bool false] := ((blkAt _ _ _ (by simp)).alloc _).below hb1 (by simp <;> omega)
  have x1_3 : Blk w1 (w.heap.size + 1 + 1 + 1) 26 #[.bool b, .slice A n c, .slice D m e, .bool x, .bool b', .slice A' n' c', .slice D' m' e', .bool x'] := (blkAt _ _ _ (by simp)).below hb1 (by simp)
  have bw1 : Below w.heap.size w w1 := (brefl w).trans (q1.mono (brefl w).size)
  have lw1 : w.heap.size + 4 ≤ w1.heap.size := by have := hb1.size; simp at this; omega
  clear hb1 q1
  have cx1_0_0 : w1.cell? ⟨w.heap.size, 0, none⟩ = some (.bool b) := x1_0.cell 0
  have cx1_0_1 : w1.cell? ⟨w.heap.size, 1, none⟩ = some (.slice A n c) := x1_0.cell 1
  have cx1_0_2 : w1.cell? ⟨w.heap.size, 2, none⟩ = some (.slice D m e) := x1_0.cell 2
  have cx1_0_3 : w1.cell? ⟨w.heap.size, 3, none⟩ = some (.bool x) := x1_0.cell 3
  have lx1_0_0 : w.heap.size < w1.heap.size := by have := x1_0.lt; omega
  have lx1_0_1 : w.heap.size < w1.heap.size + 1 := by have := x1_0.lt; omega
  have lx1_0_2 : w.heap.size < w1.heap.size + 2 := by have := x1_0.lt; omega
  have lx1_0_3 : w.heap.size < w1.heap.size + 3 := by have := x1_0.lt; omega
  have cx1_1_0 : w1.cell? ⟨w.heap.size + 1, 0, none⟩ = some (.bool b') := x1_1.cell 0
  have cx1_1_1 : w1.cell? ⟨w.heap.size + 1, 1, none⟩ = some (.slice A' n' c') := x1_1.cell 1
  have cx1_1_2 : w1.cell? ⟨w.heap.size + 1, 2, none⟩ = some (.slice D' m' e') := x1_1.cell 2
  have cx1_1_3 : w1.cell? ⟨w.heap.size + 1, 3, none⟩ = some (.bool x') := x1_1.cell 3
  have lx1_1_0 : w.heap.size + 1 < w1.heap.size := by have := x1_1.lt; omega
  have lx1_1_1 : w.heap.size < w1.heap.size := by have := x1_1.lt; omega
  have lx1_1_2 : w.heap.size < w1.heap.size + 1 := by have := x1_1.lt; omega
  have lx1_1_3 : w.heap.size < w1.heap.size + 2 := by have := x1_1.lt; omega
  go_wp2_with fail
  refine wp_region_lin (B := w.heap.size) (fr := fun xf => ⟨List.toArray (.agg #[.bool b, .slice A n c, .slice D m e, .bool x] :: .agg #[.bool b', .slice A' n' c', .slice D' m' e', .bool x'] :: .pointer (some ⟨w.heap.size, 0, none⟩) :: .pointer (some ⟨w.heap.size + 1, 0, none⟩) :: .pointer (some ⟨w.heap.size + 1 + 1, 0, none⟩) :: .nilIface :: .nilIface :: xf 4 :: undef :: .agg #[.bool b, .slice A n c, .slice D m e, .bool x] :: .agg #[.bool b', .slice A' n' c', .slice D' m' e', .bool x'] :: .slice (some ⟨w.heap.size + 1 + 1 + 1, 0, none⟩) 2 2 :: .nilIface :: .nilIface :: .bool false :: undef :: undef :: xf 0 :: xf 1 :: xf 2 :: xf 3 :: undef :: undef :: undef :: undef :: undef :: undef :: undef :: undef :: undef :: undef :: undef :: undef :: undef :: undef :: undef :: undef :: undef :: undef :: undef :: []), []⟩) (R := fun i => List.getD ((PEq (.agg #[.bool b', .slice A' n' c', .slice D' m' e', .bool x'])) :: (PEq (.agg #[.bool b, .slice A n c, .slice D m e, .bool x])) :: (VT (tneg ((t))) ((k))) :: (VT (tadd ((t')) ((tneg ((t))))) (2 * ((k')) + 2 * (((k))) + 3)) :: PAny :: PAny :: []) i (fun _ _ => True)) (es := [⟨4, 5, 26, #[.bool false, .slice none 0 0, .slice none 0 0, .bool false], CT (tadd ((t')) ((tneg ((t))))) (2 * ((k')) + 2 * (((k))) + 3)⟩]) (ow := [⟨w.heap.size, 6, 0, 26, #[.bool b, .slice A n c, .slice D m e, .bool x], CAny⟩, ⟨w.heap.size + 1, 6, 0, 26, #[.bool b', .slice A' n' c', .slice D' m' e', .bool x'], CAny⟩, ⟨w.heap.size + 1 + 1, 6, 0, 26, #[.bool false, .slice none 0 0, .slice none 0 0, .bool false], CAny⟩, ⟨w.heap.size + 1 + 1 + 1, 6, 0, 26, #[.bool b, .slice A n c, .slice D m e, .bool x, .bool b', .slice A' n' c', .slice D' m' e', .bool x'], CAny⟩]) (x0 := (fun _ => undef)) (by kernel_rfl)
    (each_of ⟨fun _ _ => rfl, fun _ _ => rfl, fun _ _ => rfl, fun _ _ => rfl, fun _ _ => rfl, fun _ _ => rfl, trivial⟩) (each_of (acyc_from _ 0 (by kernel_rfl))) (AllStab.get _ ⟨stEq _, stEq _, stT _ _, stT _ _, stAny, stAny, trivial⟩)
    (List.forall_mem_cons.2 ⟨scT _ _, fun _ h => nomatch h⟩) (List.forall_mem_cons.2 ⟨scAny, List.forall_mem_cons.2 ⟨scAny, List.forall_mem_cons.2 ⟨scAny, List.forall_mem_cons.2 ⟨scAny, fun _ h => nomatch h⟩⟩⟩⟩) (List.forall_mem_cons.2 ⟨⟨by simp, by simp⟩, fun _ h => nomatch h⟩) bw1.size
    (List.forall_mem_cons.2 ⟨⟨x1_0, by show w.heap.size ≤ w.heap.size; omega⟩, List.forall_mem_cons.2 ⟨⟨x1_1, by show w.heap.size ≤ w.heap.size + 1; omega⟩, List.forall_mem_cons.2 ⟨⟨x1_2, by show w.heap.size ≤ w.heap.size + 1 + 1; omega⟩, List.forall_mem_cons.2 ⟨⟨x1_3, by show w.heap.size ≤ w.heap.size + 1 + 1 + 1; omega⟩, fun _ h => nomatch h⟩⟩⟩⟩) (ownDist (by simp <;> omega))
    (each_of ⟨?_, ?_, ?_, ?_, ?_, ?_, trivial⟩) ?_
  · exact .inl ⟨by simp, by simp, fun xf wq hk hbl hd K hK => by
      have y : Blk wq (w.heap.size + 1) 26 #[.bool b', .slice A' n' c', .slice D' m' e', .bool x'] := hbl _ (List.Mem.tail _ (List.Mem.head _)) (by simp [Region.binds])
      have hcl0 : wq.cell? ⟨w.heap.size + 1, 0, none⟩ = some (.bool b') := y.cell 0
      have hcl1 : wq.cell? ⟨w.heap.size + 1, 1, none⟩ = some (.slice A' n' c') := y.cell 1
      have hcl2 : wq.cell? ⟨w.heap.size + 1, 2, none⟩ = some (.slice D' m' e') := y.cell 2
      have hcl3 : wq.cell? ⟨w.heap.size + 1, 3, none⟩ = some (.bool x') := y.cell 3
      (try dsimp only)
      go_simp
      exact hK.out (.agg #[.bool b', .slice A' n' c', .slice D' m' e', .bool x']) _ rfl (brefl _)⟩
  · exact .inl ⟨by simp, by simp, fun xf wq hk hbl hd K hK => by
      have y : Blk wq (w.heap.size) 26 #[.bool b, .slice A n c, .slice D m e, .bool x] := hbl _ (List.Mem.head _) (by simp [Region.binds])
      have hcl0 : wq.cell? ⟨w.heap.size, 0, none⟩ = some (.bool b) := y.cell 0
      have hcl1 : wq.cell? ⟨w.heap.size, 1, none⟩ = some (.slice A n c) := y.cell 1
      have hcl2 : wq.cell? ⟨w.heap.size, 2, none⟩ = some (.slice D m e) := y.cell 2
      have hcl3 : wq.cell? ⟨w.heap.size, 3, none⟩ = some (.bool x) := y.cell 3
      (try dsimp only)
      go_simp
      exact hK.out (.agg #[.bool b, .slice A n c, .slice D m e, .bool x]) _ rfl (brefl _)⟩
  · exact .inl ⟨by simp, by simp, fun xf wq hk hbl hd K hK => by
      have d1 : xf 1 = .agg #[.bool b, .slice A n c, .slice D m e, .bool x] := hd ⟨1, .data⟩ (by simp) rfl
      (try dsimp only); (try simp only [d1])
      go_simp
      go_at_call 36
      (with_reducible refine (t_neg _ b A n c D m e x (t) (k) ?_ ?_ ?_).mono ?_); (exact (h.keep hk)); (first | omega | decide | assumption); (first | omega | decide | assumption); rintro e wr ⟨b3, A3, n3, c3, A'3, n'3, c'3, x3, rfl, h3, hbr⟩
      have hz := hK.out _ _ ⟨b3, A3, n3, c3, A'3, n'3, c'3, x3, rfl, h3⟩ hbr
      simp only [d1] at hz
      exact hz⟩
  · exact .inl ⟨by simp, by simp, fun xf wq hk hbl hd K hK => by
      have d0 : xf 0 = .agg #[.bool b', .slice A' n' c', .slice D' m' e', .bool x'] := hd ⟨0, .data⟩ (by simp) rfl
      obtain ⟨b3, A3, n3, c3, A'3, n'3, c'3, x3, d2, h3⟩ : VT (tneg ((t))) ((k)) (xf 2) wq := hd ⟨2, .data⟩ (by simp) rfl
      (try dsimp only); (try simp only [d0, d2])
      go_simp
      go_at_call 27
      (with_reducible refine (t_add _ b' A' n' c' D' m' e' x' (t') (k') ?_ b3 A3 n3 c3 A'3 n'3 c'3 x3 (tneg ((t))) ((k)) ?_ ?_ ?_ ?_ ?_).mono ?_); (exact (h'.keep hk)); (exact h3.tk); (first | omega | decide | assumption); (first | omega | decide | assumption); (first | omega | decide | assumption); (first | omega | decide | assumption); rintro e wr ⟨b4, A4, n4, c4, A'4, n'4, c'4, x4, rfl, h4, hbr⟩
      have hz := hK.out _ _ ⟨b4, A4, n4, c4, A'4, n'4, c'4, x4, rfl, h4⟩ hbr
      simp only [d0, d2] at hz
      exact hz⟩
  · exact .inr (.inl ⟨⟨4, 5, 26, #[.bool false, .slice none 0 0, .slice none 0 0, .bool false], CT (tadd ((t')) ((tneg ((t))))) (2 * ((k')) + 2 * (((k))) + 3)⟩, by simp, rfl, by simp, by simp, by simp, fun _ _ => True.intro, fun xf wq K hK => by
      (try dsimp only)
      go_simp
      exact hK.out⟩)
  · exact .inr (.inr (.inl ⟨⟨4, 5, 26, #[.bool false, .slice none 0 0, .slice none 0 0, .bool false], CT (tadd ((t')) ((tneg ((t))))) (2 * ((k')) + 2 * (((k))) + 3)⟩, by simp, rfl, by simp, by simp, by simp, by simp, (show KT 26 = false by decide), fun _ _ => True.intro, ⟨⟨4, .data⟩, by simp, rfl, rfl⟩, fun xf wq g hx hblk hd => by
      obtain ⟨b4, A4, n4, c4, A'4, n'4, c'4, x4, d3, h4⟩ : VT (tadd ((t')) ((tneg ((t))))) (2 * ((k')) + 2 * (((k))) + 3) (xf 3) wq := hd ⟨3, .data⟩ (by simp) rfl
      dsimp only at hx hblk
      refine ⟨[.bool b4, .slice A4 n4 c4, .slice A'4 n'4 c'4, .bool x4], fun w' hk => ⟨b4, A4, n4, c4, A'4, n'4, c'4, x4, rfl, h4.keep hk⟩, fun K hK => ?_⟩
      have hc0 : wq.cell? ⟨g, 0, none⟩ = some (.bool false) := hblk.cell 0
      have hc1 : wq.cell? ⟨g, 1, none⟩ = some (.slice none 0 0) := hblk.cell 1
      have hc2 : wq.cell? ⟨g, 2, none⟩ = some (.slice none 0 0) := hblk.cell 2
      have hc3 : wq.cell? ⟨g, 3, none⟩ = some (.bool false) := hblk.cell 3
      have hf0 : wq.frozen? ⟨g, 0, none⟩ = false := hblk.frozen 0
      have hf1 : wq.frozen? ⟨g, 1, none⟩ = false := hblk.frozen 1
      have hf2 : wq.frozen? ⟨g, 2, none⟩ = false := hblk.frozen 2
      have hf3 : wq.frozen? ⟨g, 3, none⟩ = false := hblk.frozen 3
      (try dsimp only)
      simp only [hx, d3]
      go_simp
      have hz := hK.out undef
      simp only [hx, d3] at hz
      exact hz⟩))
  clear cx1_0_0 cx1_0_1 cx1_0_2 cx1_0_3 lx1_0_0 lx1_0_1 lx1_0_2 lx1_0_3 cx1_1_0 cx1_1_1 cx1_1_2 cx1_1_3 lx1_1_0 lx1_1_1 lx1_1_2 lx1_1_3
  intro y2 w2 kq2 hbl2 lw2 how hrr hfl hds
  replace h := h.keep kq2
  replace h' := h'.keep kq2
  obtain ⟨_, z2_0, ez, _⟩ := how _ (List.Mem.head _)
  obtain rfl := ez (by simp)
  dsimp only at z2_0
  obtain ⟨_, z2_1, ez, _⟩ := how _ (List.Mem.tail _ (List.Mem.head _))
  obtain rfl := ez (by simp)
  dsimp only at z2_1
  obtain ⟨_, z2_2, ez, _⟩ := how _ (List.Mem.tail _ (List.Mem.tail _ (List.Mem.head _)))
  obtain rfl := ez (by simp)
  dsimp only at z2_2
  obtain ⟨_, z2_3, ez, _⟩ := how _ (List.Mem.tail _ (List.Mem.tail _ (List.Mem.tail _ (List.Mem.head _))))
  obtain rfl := ez (by simp)
  dsimp only at z2_3
  obtain ⟨g7_2, _, eg7_2, Gg7_2, xg7_2, ⟨b4, A4, n4, c4, A'4, n'4, c'4, x4, rfl, h4⟩⟩ := hfl _ (List.Mem.head _)
  dsimp only at eg7_2 Gg7_2 xg7_2
  have lgg7_2 : g7_2 < w2.heap.size := xg7_2.lt
  (try dsimp only)
  simp only [eg7_2]
  clear hrr hfl how hds eg7_2
  clear x1_0 x1_1 x1_2 x1_3
  have bw2 : Below w.heap.size w w2 := bw1.trans hbl2
  clear bw1
  go_wp2_with fail
  obtain rfl : x4 = false := h4.2.1.trans HH.out
  (with_reducible refine (t_half _).mono ?_); rintro e w6 ⟨b6, A6, n6, c6, A'6, n'6, c'6, x6, rfl, h6, hb6⟩
  have q6 : Below w2.heap.size w2 w6 := hb6
  replace h := h.belw q6
  replace h' := h'.belw q6
  replace h4 := h4.belw q6
  replace z2_0 : Blk w6 (w.heap.size) 26 #[.bool b, .slice A n c, .slice D m e, .bool x] := z2_0.below q6 z2_0.lt
  replace z2_1 : Blk w6 (w.heap.size + 1) 26 #[.bool b', .slice A' n' c', .slice D' m' e', .bool x'] := z2_1.below q6 z2_1.lt
  replace z2_2 : Blk w6 (w.heap.size + 1 + 1) 26 #[.bool false, .slice none 0 0, .slice none 0 0, .bool false] := z2_2.below q6 z2_2.lt
  replace z2_3 : Blk w6 (w.heap.size + 1 + 1 + 1) 26 #[.bool b, .slice A n c, .slice D m e, .bool x, .bool b', .slice A' n' c', .slice D' m' e', .bool x'] := z2_3.below q6 z2_3.lt
  replace xg7_2 : Blk w6 (g7_2) 26 #[.bool b4, .slice A4 n4 c4, .slice A'4 n'4 c'4, .bool false] := xg7_2.below q6 xg7_2.lt
  have bw6 : Below w.heap.size w w6 := bw2.trans (q6.mono bw2.size)
  have lw6 : w2.heap.size ≤ w6.heap.size := q6.size
  clear hb6 q6 bw2
  have cxg7_2_0 : w6.cell? ⟨g7_2, 0, none⟩ = some (.bool b4) := xg7_2.cell 0
  have cxg7_2_1 : w6.cell? ⟨g7_2, 1, none⟩ = some (.slice A4 n4 c4) := xg7_2.cell 1
  have cxg7_2_2 : w6.cell? ⟨g7_2, 2, none⟩ = some (.slice A'4 n'4 c'4) := xg7_2.cell 2
  have cxg7_2_3 : w6.cell? ⟨g7_2, 3, none⟩ = some (.bool false) := xg7_2.cell 3
  have lxg7_2_0 : g7_2 < w6.heap.size := by have := xg7_2.lt; omega
  have lxg7_2_1 : g7_2 < w6.heap.size + 1 := by have := xg7_2.lt; omega
  have lxg7_2_2 : g7_2 < w6.heap.size + 2 := by have := xg7_2.lt; omega
  have lxg7_2_3 : g7_2 < w6.heap.size + 3 := by have := xg7_2.lt; omega
  go_wp2_with fail
  (with_reducible refine (f_sign_e _ b4 A4 n4 c4 A'4 n'4 c'4 ((tadd ((t')) ((tneg ((t))))).t) (2 * ((k')) + 2 * (((k))) + 3) ?_ (s) ?_ ?_ ?_).mono ?_); (exact (h4.belw ((Below.refl _ _).alloc (Nat.le_refl _) _)).qz); (exact HS.out); (first | omega | decide | assumption); (first | omega | decide | assumption); rintro e w7 ⟨rfl, hb7⟩
  clear cxg7_2_0 cxg7_2_1 cxg7_2_2 cxg7_2_3 lxg7_2_0 lxg7_2_1 lxg7_2_2 lxg7_2_3
  have q7 : Below w6.heap.size w6 w7 := ((Below.refl _ _).alloc (Nat.le_refl _) _).trans (hb7.mono (by simp))
  replace h := h.belw q7
  replace h' := h'.belw q7
  replace h4 := h4.belw q7
  replace h6 := h6.belw q7
  replace z2_0 : Blk w7 (w.heap.size) 26 #[.bool b, .slice A n c, .slice D m e, .bool x] := z2_0.below q7 z2_0.lt
  replace z2_1 : Blk w7 (w.heap.size + 1) 26 #[.bool b', .slice A' n' c', .slice D' m' e', .bool x'] := z2_1.below q7 z2_1.lt
  replace z2_2 : Blk w7 (w.heap.size + 1 + 1) 26 #[.bool false, .slice none 0 0, .slice none 0 0, .bool false] := z2_2.below q7 z2_2.lt
  replace z2_3 : Blk w7 (w.heap.size + 1 + 1 + 1) 26 #[.bool b, .slice A n c, .slice D m e, .bool x, .bool b', .slice A' n' c', .slice D' m' e', .bool x'] := z2_3.below q7 z2_3.lt
  replace xg7_2 : Blk w7 (g7_2) 26 #[.bool b4, .slice A4 n4 c4, .slice A'4 n'4 c'4, .bool false] := xg7_2.below q7 xg7_2.lt
  have x7_0 : Blk w7 (w6.heap.size) 26 #[.bool b6, .slice A6 n6 c6, .slice A'6 n'6 c'6, .bool x6] := (blkAt _ _ _ (by simp)).below hb7 (by simp)
  have bw7 : Below w.heap.size w w7 := bw6.trans (q7.mono bw6.size)
  have lw7 : w6.heap.size + 1 ≤ w7.heap.size := by have := hb7.size; simp at this; omega
  clear hb7 q7 bw6
  have cz2_0_0 : w7.cell? ⟨w.heap.size, 0, none⟩ = some (.bool b) := z2_0.cell 0
  have cz2_0_1 : w7.cell? ⟨w.heap.size, 1, none⟩ = some (.slice A n c) := z2_0.cell 1
  have cz2_0_2 : w7.cell? ⟨w.heap.size, 2, none⟩ = some (.slice D m e) := z2_0.cell 2
  have cz2_0_3 : w7.cell? ⟨w.heap.size, 3, none⟩ = some (.bool x) := z2_0.cell 3
  have lz2_0_0 : w.heap.size < w7.heap.size := by have := z2_0.lt; omega
  have lz2_0_1 : w.heap.size < w7.heap.size + 1 := by have := z2_0.lt; omega
  have lz2_0_2 : w.heap.size < w7.heap.size + 2 := by have := z2_0.lt; omega
  have lz2_0_3 : w.heap.size < w7.heap.size + 3 := by have := z2_0.lt; omega
  have cx7_0_0 : w7.cell? ⟨w6.heap.size, 0, none⟩ = some (.bool b6) := x7_0.cell 0
  have cx7_0_1 : w7.cell? ⟨w6.heap.size, 1, none⟩ = some (.slice A6 n6 c6) := x7_0.cell 1
  have cx7_0_2 : w7.cell? ⟨w6.heap.size, 2, none⟩ = some (.slice A'6 n'6 c'6) := x7_0.cell 2
  have cx7_0_3 : w7.cell? ⟨w6.heap.size, 3, none⟩ = some (.bool x6) := x7_0.cell 3
  have lx7_0_0 : w6.heap.size < w7.heap.size := by have := x7_0.lt; omega
  have lx7_0_1 : w6.heap.size < w7.heap.size + 1 := by have := x7_0.lt; omega
  have lx7_0_2 : w6.heap.size < w7.heap.size + 2 := by have := x7_0.lt; omega
  have lx7_0_3 : w6.heap.size < w7.heap.size + 3 := by have := x7_0.lt; omega
  go_wp2_with fail
  (with_reducible refine (t_add _ b A n c D m e x (t) (k) ?_ b6 A6 n6 c6 A'6 n'6 c'6 x6 (thalf) (1) ?_ ?_ ?_ ?_ ?_).mono ?_); (exact h); (exact h6.tk); (first | omega | decide | assumption); (first | omega | decide | assumption); (first | omega | decide | assumption); (first | omega | decide | assumption); rintro e w8 ⟨b8, A8, n8, c8, A'8, n'8, c'8, x8, rfl, h8, hb8⟩
  clear cz2_0_0 cz2_0_1 cz2_0_2 cz2_0_3 lz2_0_0 lz2_0_1 lz2_0_2 lz2_0_3 cx7_0_0 cx7_0_1 cx7_0_2 cx7_0_3 lx7_0_0 lx7_0_1 lx7_0_2 lx7_0_3
  have q8 : Below w7.heap.size w7 w8 := hb8
  replace h := h.belw q8
  replace h' := h'.belw q8
  replace h4 := h4.belw q8
  replace h6 := h6.belw q8
  replace z2_0 : Blk w8 (w.heap.size) 26 #[.bool b, .slice A n c, .slice D m e, .bool x] := z2_0.below q8 z2_0.lt
  replace z2_1 : Blk w8 (w.heap.size + 1) 26 #[.bool b', .slice A' n' c', .slice D' m' e', .bool x'] := z2_1.below q8 z2_1.lt
  replace z2_2 : Blk w8 (w.heap.size + 1 + 1) 26 #[.bool false, .slice none 0 0, .slice none 0 0, .bool false] := z2_2.below q8 z2_2.lt
  replace z2_3 : Blk w8 (w.heap.size + 1 + 1 + 1) 26 #[.bool b, .slice A n c, .slice D m e, .bool x, .bool b', .slice A' n' c', .slice D' m' e', .bool x'] := z2_3.below q8 z2_3.lt
  replace xg7_2 : Blk w8 (g7_2) 26 #[.bool b4, .slice A4 n4 c4, .slice A'4 n'4 c'4, .bool false] := xg7_2.below q8 xg7_2.lt
  replace x7_0 : Blk w8 (w6.heap.size) 26 #[.bool b6, .slice A6 n6 c6, .slice A'6 n'6 c'6, .bool x6] := x7_0.below q8 x7_0.lt
  have bw8 : Below w.heap.size w w8 := bw7.trans (q8.mono bw7.size)
  have lw8 : w7.heap.size ≤ w8.heap.size := q8.size
  clear hb8 q8 bw7
  have cz2_2_0 : w8.cell? ⟨w.heap.size + 1 + 1, 0, none⟩ = some (.bool false) := z2_2.cell 0
  have fz2_2_0 : w8.frozen? ⟨w.heap.size + 1 + 1, 0, none⟩ = false := z2_2.frozen 0
  have cz2_2_1 : w8.cell? ⟨w.heap.size + 1 + 1, 1, none⟩ = some (.slice none 0 0) := z2_2.cell 1
  have fz2_2_1 : w8.frozen? ⟨w.heap.size + 1 + 1, 1, none⟩ = false := z2_2.frozen 1
  have cz2_2_2 : w8.cell? ⟨w.heap.size + 1 + 1, 2, none⟩ = some (.slice none 0 0) := z2_2.cell 2
  have fz2_2_2 : w8.frozen? ⟨w.heap.size + 1 + 1, 2, none⟩ = false := z2_2.frozen 2
  have cz2_2_3 : w8.cell? ⟨w.heap.size + 1 + 1, 3, none⟩ = some (.bool false) := z2_2.cell 3
  have fz2_2_3 : w8.frozen? ⟨w.heap.size + 1 + 1, 3, none⟩ = false := z2_2.frozen 3
  have lz2_2_0 : w.heap.size + 2 < w8.heap.size := by have := z2_2.lt; omega
  have lz2_2_1 : w.heap.size + 1 < w8.heap.size := by have := z2_2.lt; omega
  have lz2_2_2 : w.heap.size < w8.heap.size := by have := z2_2.lt; omega
  have lz2_2_3 : w.heap.size < w8.heap.size + 1 := by have := z2_2.lt; omega
  go_wp2_with fail
  rw [HT.out]
  refine bodyPost_ret (v := .tuple #[.agg #[.bool b8, .slice A8 n8 c8, .slice A'8 n'8 c'8, .bool x8], .nilIface]) (by simp [results, Try.results21, go_sem, *] <;> first | rfl | exact ⟨rfl, rfl⟩) rfl ?_
  have kp := (((((Kp.refl w8).setB (p := ⟨w.heap.size + 1 + 1, 0, none⟩) z2_2.box (by decide) (.bool b8)).setB (p := ⟨w.heap.size + 1 + 1, 1, none⟩) (z2_2.box.set ⟨w.heap.size + 1 + 1, 0, none⟩ (.bool b8)) (by decide) (.slice A8 n8 c8)).setB (p := ⟨w.heap.size + 1 + 1, 2, none⟩) ((z2_2.box.set ⟨w.heap.size + 1 + 1, 0, none⟩ (.bool b8)).set ⟨w.heap.size + 1 + 1, 1, none⟩ (.slice A8 n8 c8)) (by decide) (.slice A'8 n'8 c'8)).setB (p := ⟨w.heap.size + 1 + 1, 3, none⟩) (((z2_2.box.set ⟨w.heap.size + 1 + 1, 0, none⟩ (.bool b8)).set ⟨w.heap.size + 1 + 1, 1, none⟩ (.slice A8 n8 c8)).set ⟨w.heap.size + 1 + 1, 2, none⟩ (.slice A'8 n'8 c'8)) (by decide) (.bool x8))
  exact ⟨b8, A8, n8, c8, A'8, n'8, c'8, x8, rfl, (h8.keep kp).mono (by omega), ((((bw8.setCell (p := ⟨w.heap.size + 1 + 1, 0, none⟩) (by dsimp only; omega) (.bool b8)).setCell (p := ⟨w.heap.size + 1 + 1, 1, none⟩) (by dsimp only; omega) (.slice A8 n8 c8)).setCell (p := ⟨w.heap.size + 1 + 1, 2, none⟩) (by dsimp only; omega) (.slice A'8 n'8 c'8)).setCell (p := ⟨w.heap.size + 1 + 1, 3, none⟩) (by dsimp only; omega) (.bool x8))⟩
theorem sgn_pos (q : Rat) : 0 < q.num.sign ↔ 0 < q := by
  rw [show (0 < q) = (0 < q.num) from propext (by rw [Rat.lt_iff]; simp)]
  rcases Int.lt_trichotomy 0 q.num with h | h | h
  · rw [Int.sign_eq_one_of_pos h]; omega
  · rw [← h]; simp
  · rw [Int.sign_eq_neg_one_of_neg h]; omega
theorem t_Between (w : World) (b : Bool) (A : Option Addr) (n c : Nat) (D : Option Addr) (m e : Nat) (x : Bool) (t : TN) (k : Nat) (h : TK w b A n c D m e x t k) (b' : Bool) (A' : Option Addr) (n' c' : Nat) (D' : Option Addr) (m' e' : Nat) (x' : Bool) (t' : TN) (k' : Nat) (h' : TK w b' A' n' c' D' m' e' x' t' k') (h0 : 0 < k) (hk : k ≤ 50000) (h0' : 0 < k') (hk' : k' ≤ 50000) : Calls Try.prog 21 #[.agg #[.bool b, .slice A n c, .slice D m e, .bool x], .agg #[.bool b', .slice A' n' c', .slice D' m' e', .bool x']] w (RetTe w .nilIface (tbetween t t') (6 * k + 4 * k' + 20)) := by
  by_cases hh : (tadd t' (tneg t)).h = true
  · exact t_Between_h w b A n c D m e x t k h b' A' n' c' D' m' e' x' t' k' h' h0 hk h0' hk' hh
  · have hf : (tadd t' (tneg t)).h = false := by revert hh; cases (tadd t' (tneg t)).h <;> simp
    by_cases hp : 0 < (tadd t' (tneg t)).t
    · exact t_Between_p w b A n c D m e x t k h b' A' n' c' D' m' e' x' t' k' h' h0 hk h0' hk' hf _ rfl hp ((sgn_pos _).2 hp)
    · exact t_Between_n w b A n c D m e x t k h b' A' n' c' D' m' e' x' t' k' h' h0 hk h0' hk' hf _ rfl hp (fun y => hp ((sgn_pos _).1 y))
end Go.Proofs.Ytmneloabphplmaa

/- Walks: the reference: whether two accepted turns are the same. -/
namespace Go.Proofs.Ytmneloabphplmaa
open Go Go.RowKit Bn
attribute [local go_sem ↓] Go.wp_at_zero Go.wp_at_succ
theorem g_cmp_e (w : World) (b : Bool) (A : Option Addr) (n c : Nat) (D : Option Addr) (m e : Nat) (q : Rat) (k : Nat) (h : QZ w b A n c D m e q k) (b' : Bool) (A' : Option Addr) (n' c' : Nat) (D' : Option Addr) (m' e' : Nat) (q' : Rat) (k' : Nat) (h' : QZ w b' A' n' c' D' m' e' q' k') (s : Int) (hs : (q - q').num.sign = s) (h0 : 0 < k) (hk : k ≤ 10000000) (h0' : 0 < k') (hk' : k' ≤ 10000000) : Calls Try.prog 38 #[.agg #[.bool b, .slice A n c, .slice D m e], .agg #[.bool b', .slice A' n' c', .slice D' m' e']] w (RetV w (.int .i64 s)) := by
  subst hs; exact g_cmp w b A n c D m e q k h b' A' n' c' D' m' e' q' k' h' h0 hk h0' hk'
theorem sub_sign {q q' : Rat} : (q - q').num.sign = 0 ↔ q = q' := by
  rw [Int.sign_eq_zero_iff_zero, Rat.num_eq_zero]
  constructor
  · intro h; have h2 := Rat.sub_add_cancel (a := q) (b := q'); rw [h, Rat.zero_add] at h2; exact h2.symm
  · intro h; rw [h]; exact Rat.sub_self
set_option maxRecDepth 100000 in
set_option maxHeartbeats 2000000 in
/-- linkworkref12.Same -/
theorem g_same_tt0 (w : World) (b : Bool) (A : Option Addr) (n c : Nat) (D : Option Addr) (m e : Nat) (t : TN) (k : Nat) (h : TK w b A n c D m e true t k) (b' : Bool) (A' : Option Addr) (n' c' : Nat) (D' : Option Addr) (m' e' : Nat) (t' : TN) (k' : Nat) (h' : TK w b' A' n' c' D' m' e' true t' k') (h0 : 0 < k) (hk : k ≤ 1000000) (h0' : 0 < k') (hk' : k' ≤ 1000000) (hs : (t.t - t'.t).num.sign = 0) :
    Calls Try.prog 18 #[.agg #[.bool b, .slice A n c, .slice D m e, .bool true], .agg #[.bool b', .slice A' n' c', .slice D' m' e', .bool true]] w (RetV w (.bool true)) := by
  have HS := Lib.hid hs
  clear hs
  go_enter Try.func18, Try.ntmps18
  go_wp2_with fail
  (with_reducible refine (g_cmp_e _ b A n c D m e ((t).t) (k) ?_ b' A' n' c' D' m' e' ((t').t) (k') ?_ (0) ?_ ?_ ?_ ?_ ?_).mono ?_); (exact (h.belw (((Below.refl _ _).alloc (Nat.le_refl _) _).alloc (by simp) _)).qz); (exact (h'.belw (((Below.refl _ _).alloc (Nat.le_refl _) _).alloc (by simp) _)).qz); (exact HS.out); (first | omega | decide | assumption); (first | omega | decide | assumption); (first | omega | decide | assumption); (first | omega | decide | assumption); rintro e w1 ⟨rfl, hb1⟩
  have q1 : Below w.heap.size w w1 := (((Below.refl _ _).alloc (Nat.le_refl _) _).alloc (by simp) _).trans (hb1.mono (by simp <;> omega))
  replace h := h.belw q1
  replace h' := h'.belw q1
  have x1_0 : Blk w1 (w.heap.size) 26 #[.bool b, .slice A n c, .slice D m e, .bool true] := ((blkAt _ _ _ (by simp)).alloc _).below hb1 (by simp <;> omega)
  have x1_1 : Blk w1 (w.heap.size + 1) 26 #[.bool b', .slice A' n' c', .slice D' m' e', .bool true] := (blkAt _ _ _ (by simp)).below hb1 (by simp)
  have bw1 : Below w.heap.size w w1 := (brefl w).trans (q1.mono (brefl w).size)
  have lw1 : w.heap.size + 2 ≤ w1.heap.size := by have := hb1.size; simp at this; omega
  clear hb1 q1
  go_wp2_with fail
  go_ret
  exact retB rfl bw1
set_option maxRecDepth 100000 in
set_option maxHeartbeats 2000000 in
/-- linkworkref12.Same -/
theorem g_same_tts (w : World) (b : Bool) (A : Option Addr) (n c : Nat) (D : Option Addr) (m e : Nat) (t : TN) (k : Nat) (h : TK w b A n c D m e true t k) (b' : Bool) (A' : Option Addr) (n' c' : Nat) (D' : Option Addr) (m' e' : Nat) (t' : TN) (k' : Nat) (h' : TK w b' A' n' c' D' m' e' true t' k') (h0 : 0 < k) (hk : k ≤ 1000000) (h0' : 0 < k') (hk' : k' ≤ 1000000) (s : Int) (hs : (t.t - t'.t).num.sign = s) (hne : s ≠ 0) :
    Calls Try.prog 18 #[.agg #[.bool b, .slice A n c, .slice D m e, .bool true], .agg #[.bool b', .slice A' n' c', .slice D' m' e', .bool true]] w (RetV w (.bool false)) := by
  have HS := Lib.hid hs
  have e0 : ((s : Int) == 0) = false := by simp; exact hne
  clear hs hne
  go_enter Try.func18, Try.ntmps18
  go_wp2_with fail
  (with_reducible refine (g_cmp_e _ b A n c D m e ((t).t) (k) ?_ b' A' n' c' D' m' e' ((t').t) (k') ?_ (s) ?_ ?_ ?_ ?_ ?_).mono ?_); (exact (h.belw (((Below.refl _ _).alloc (Nat.le_refl _) _).alloc (by simp) _)).qz); (exact (h'.belw (((Below.refl _ _).alloc (Nat.le_refl _) _).alloc (by simp) _)).qz); (exact HS.out); (first | omega | decide | assumption); (first | omega | decide | assumption); (first | omega | decide | assumption); (first | omega | decide | assumption); rintro e w1 ⟨rfl, hb1⟩
  have q1 : Below w.heap.size w w1 := (((Below.refl _ _).alloc (Nat.le_refl _) _).alloc (by simp) _).trans (hb1.mono (by simp <;> omega))
  replace h := h.belw q1
  replace h' := h'.belw q1
  have x1_0 : Blk w1 (w.heap.size) 26 #[.bool b, .slice A n c, .slice D m e, .bool true] := ((blkAt _ _ _ (by simp)).alloc _).below hb1 (by simp <;> omega)
  have x1_1 : Blk w1 (w.heap.size + 1) 26 #[.bool b', .slice A' n' c', .slice D' m' e', .bool true] := (blkAt _ _ _ (by simp)).below hb1 (by simp)
  have bw1 : Below w.heap.size w w1 := (brefl w).trans (q1.mono (brefl w).size)
  have lw1 : w.heap.size + 2 ≤ w1.heap.size := by have := hb1.size; simp at this; omega
  clear hb1 q1
  go_wp2_with fail
  go_ret
  exact retB rfl bw1
set_option maxRecDepth 100000 in
set_option maxHeartbeats 2000000 in
/-- linkworkref12.Same -/
theorem g_same_tf (w : World) (b : Bool) (A : Option Addr) (n c : Nat) (D : Option Addr) (m e : Nat) (t : TN) (k : Nat) (h : TK w b A n c D m e true t k) (b' : Bool) (A' : Option Addr) (n' c' : Nat) (D' : Option Addr) (m' e' : Nat) (t' : TN) (k' : Nat) (h' : TK w b' A' n' c' D' m' e' false t' k') (h0 : 0 < k) (hk : k ≤ 1000000) (h0' : 0 < k') (hk' : k' ≤ 1000000)  :
    Calls Try.prog 18 #[.agg #[.bool b, .slice A n c, .slice D m e, .bool true], .agg #[.bool b', .slice A' n' c', .slice D' m' e', .bool false]] w (RetV w (.bool false)) := by
  go_enter Try.func18, Try.ntmps18
  go_wp2_with fail
  go_ret
  exact retB rfl (((brefl w).alloc (by first | omega | (simp <;> omega)) (.cells #[.bool b, .slice A n c, .slice D m e, .bool true] 26)).alloc (by first | omega | (simp <;> omega)) (.cells #[.bool b', .slice A' n' c', .slice D' m' e', .bool false] 26))
set_option maxRecDepth 100000 in
set_option maxHeartbeats 2000000 in
/-- linkworkref12.Same -/
theorem g_same_ft (w : World) (b : Bool) (A : Option Addr) (n c : Nat) (D : Option Addr) (m e : Nat) (t : TN) (k : Nat) (h : TK w b A n c D m e false t k) (b' : Bool) (A' : Option Addr) (n' c' : Nat) (D' : Option Addr) (m' e' : Nat) (t' : TN) (k' : Nat) (h' : TK w b' A' n' c' D' m' e' true t' k') (h0 : 0 < k) (hk : k ≤ 1000000) (h0' : 0 < k') (hk' : k' ≤ 1000000)  :
    Calls Try.prog 18 #[.agg #[.bool b, .slice A n c, .slice D m e, .bool false], .agg #[.bool b', .slice A' n' c', .slice D' m' e', .bool true]] w (RetV w (.bool false)) := by
  go_enter Try.func18, Try.ntmps18
  go_wp2_with fail
  go_ret
  exact retB rfl (((brefl w).alloc (by first | omega | (simp <;> omega)) (.cells #[.bool b, .slice A n c, .slice D m e, .bool false] 26)).alloc (by first | omega | (simp <;> omega)) (.cells #[.bool b', .slice A' n' c', .slice D' m' e', .bool true] 26))
set_option maxRecDepth 100000 in
set_option maxHeartbeats 2000000 in
/-- linkworkref12.Same -/
theorem g_same_ff0 (w : World) (b : Bool) (A : Option Addr) (n c : Nat) (D : Option Addr) (m e : Nat) (t : TN) (k : Nat) (h : TK w b A n c D m e false t k) (b' : Bool) (A' : Option Addr) (n' c' : Nat) (D' : Option Addr) (m' e' : Nat) (t' : TN) (k' : Nat) (h' : TK w b' A' n' c' D' m' e' false t' k') (h0 : 0 < k) (hk : k ≤ 1000000) (h0' : 0 < k') (hk' : k' ≤ 1000000) (hs : (t.t - t'.t).num.sign = 0) :
    Calls Try.prog 18 #[.agg #[.bool b, .slice A n c, .slice D m e, .bool false], .agg #[.bool b', .slice A' n' c', .slice D' m' e', .bool false]] w (RetV w (.bool true)) := by
  have HS := Lib.hid hs
  clear hs
  go_enter Try.func18, Try.ntmps18
  go_wp2_with fail
  (with_reducible refine (g_cmp_e _ b A n c D m e ((t).t) (k) ?_ b' A' n' c' D' m' e' ((t').t) (k') ?_ (0) ?_ ?_ ?_ ?_ ?_).mono ?_); (exact (h.belw (((Below.refl _ _).alloc (Nat.le_refl _) _).alloc (by simp) _)).qz); (exact (h'.belw (((Below.refl _ _).alloc (Nat.le_refl _) _).alloc (by simp) _)).qz); (exact HS.out); (first | omega | decide | assumption); (first | omega | decide | assumption); (first | omega | decide | assumption); (first | omega | decide | assumption); rintro e w1 ⟨rfl, hb1⟩
  have q1 : Below w.heap.size w w1 := (((Below.refl _ _).alloc (Nat.le_refl _) _).alloc (by simp) _).trans (hb1.mono (by simp <;> omega))
  replace h := h.belw q1
  replace h' := h'.belw q1
  have x1_0 : Blk w1 (w.heap.size) 26 #[.bool b, .slice A n c, .slice D m e, .bool false] := ((blkAt _ _ _ (by simp)).alloc _).below hb1 (by simp <;> omega)
  have x1_1 : Blk w1 (w.heap.size + 1) 26 #[.bool b', .slice A' n' c', .slice D' m' e', .bool false] := (blkAt _ _ _ (by simp)).below hb1 (by simp)
  have bw1 : Below w.heap.size w w1 := (brefl w).trans (q1.mono (brefl w).size)
  have lw1 : w.heap.size + 2 ≤ w1.heap.size := by have := hb1.size; simp at this; omega
  clear hb1 q1
  go_wp2_with fail
  go_ret
  exact retB rfl bw1
set_option maxRecDepth 100000 in
set_option maxHeartbeats 2000000 in
/-- linkworkref12.Same -/
theorem g_same_ffs (w : World) (b : Bool) (A : Option Addr) (n c : Nat) (D : Option Addr) (m e : Nat) (t : TN) (k : Nat) (h : TK w b A n c D m e false t k) (b' : Bool) (A' : Option Addr) (n' c' : Nat) (D' : Option Addr) (m' e' : Nat) (t' : TN) (k' : Nat) (h' : TK w b' A' n' c' D' m' e' false t' k') (h0 : 0 < k) (hk : k ≤ 1000000) (h0' : 0 < k') (hk' : k' ≤ 1000000) (s : Int) (hs : (t.t - t'.t).num.sign = s) (hne : s ≠ 0) :
    Calls Try.prog 18 #[.agg #[.bool b, .slice A n c, .slice D m e, .bool false], .agg #[.bool b', .slice A' n' c', .slice D' m' e', .bool false]] w (RetV w (.bool false)) := by
  have HS := Lib.hid hs
  have e0 : ((s : Int) == 0) = false := by simp; exact hne
  clear hs hne
  go_enter Try.func18, Try.ntmps18
  go_wp2_with fail
  (with_reducible refine (g_cmp_e _ b A n c D m e ((t).t) (k) ?_ b' A' n' c' D' m' e' ((t').t) (k') ?_ (s) ?_ ?_ ?_ ?_ ?_).mono ?_); (exact (h.belw (((Below.refl _ _).alloc (Nat.le_refl _) _).alloc (by simp) _)).qz); (exact (h'.belw (((Below.refl _ _).alloc (Nat.le_refl _) _).alloc (by simp) _)).qz); (exact HS.out); (first | omega | decide | assumption); (first | omega | decide | assumption); (first | omega | decide | assumption); (first | omega | decide | assumption); rintro e w1 ⟨rfl, hb1⟩
  have q1 : Below w.heap.size w w1 := (((Below.refl _ _).alloc (Nat.le_refl _) _).alloc (by simp) _).trans (hb1.mono (by simp <;> omega))
  replace h := h.belw q1
  replace h' := h'.belw q1
  have x1_0 : Blk w1 (w.heap.size) 26 #[.bool b, .slice A n c, .slice D m e, .bool false] := ((blkAt _ _ _ (by simp)).alloc _).below hb1 (by simp <;> omega)
  have x1_1 : Blk w1 (w.heap.size + 1) 26 #[.bool b', .slice A' n' c', .slice D' m' e', .bool false] := (blkAt _ _ _ (by simp)).below hb1 (by simp)
  have bw1 : Below w.heap.size w w1 := (brefl w).trans (q1.mono (brefl w).size)
  have lw1 : w.heap.size + 2 ≤ w1.heap.size := by have := hb1.size; simp at this; omega
  clear hb1 q1
  go_wp2_with fail
  go_ret
  exact retB rfl bw1
theorem g_same (w : World) (b : Bool) (A : Option Addr) (n c : Nat) (D : Option Addr) (m e : Nat) (x : Bool) (t : TN) (k : Nat) (h : TK w b A n c D m e x t k) (b' : Bool) (A' : Option Addr) (n' c' : Nat) (D' : Option Addr) (m' e' : Nat) (x' : Bool) (t' : TN) (k' : Nat) (h' : TK w b' A' n' c' D' m' e' x' t' k') (h0 : 0 < k) (hk : k ≤ 1000000) (h0' : 0 < k') (hk' : k' ≤ 1000000) (v : Bool) (hv : v = true ↔ t = t') : Calls Try.prog 18 #[.agg #[.bool b, .slice A n c, .slice D m e, .bool x], .agg #[.bool b', .slice A' n' c', .slice D' m' e', .bool x']] w (RetV w (.bool v)) := by
  have h1 := h.2.1
  have h2 := h'.2.1
  by_cases he : t = t'
  · have hs : (t.t - t'.t).num.sign = 0 := sub_sign.2 (by rw [he])
    obtain rfl : v = true := hv.2 he
    have hx : x = x' := by rw [h1, h2, he]
    subst hx
    cases x
    · exact g_same_ff0 w b A n c D m e t k h b' A' n' c' D' m' e' t' k' h' h0 hk h0' hk' hs
    · exact g_same_tt0 w b A n c D m e t k h b' A' n' c' D' m' e' t' k' h' h0 hk h0' hk' hs
  · obtain rfl : v = false := by cases v; rfl; exact absurd (hv.1 rfl) he
    by_cases hx : x = x'
    · subst hx
      have hne : (t.t - t'.t).num.sign ≠ 0 := fun z => he (by
        obtain ⟨a, ah⟩ := t
        obtain ⟨a', ah'⟩ := t'
        have := sub_sign.1 z
        simp only at this h1 h2
        rw [this, ← h1, ← h2])
      cases x
      · exact g_same_ffs w b A n c D m e t k h b' A' n' c' D' m' e' t' k' h' h0 hk h0' hk' _ rfl hne
      · exact g_same_tts w b A n c D m e t k h b' A' n' c' D' m' e' t' k' h' h0 hk h0' hk' _ rfl hne
    · cases x <;> cases x'
      · exact absurd rfl hx
      · exact g_same_ft w b A n c D m e t k h b' A' n' c' D' m' e' t' k' h' h0 hk h0' hk'
      · exact g_same_tf w b A n c D m e t k h b' A' n' c' D' m' e' t' k' h' h0 hk h0' hk'
      · exact absurd rfl hx
theorem g_same_e (w : World) (b : Bool) (A : Option Addr) (n c : Nat) (D : Option Addr) (m e : Nat) (x : Bool) (t : TN) (k : Nat) (h : TK w b A n c D m e x t k) (b' : Bool) (A' : Option Addr) (n' c' : Nat) (D' : Option Addr) (m' e' : Nat) (x' : Bool) (t' : TN) (k' : Nat) (h' : TK w b' A' n' c' D' m' e' x' t' k') (v : Bool) (hv : v = true ↔ t = t') (h0 : 0 < k) (hk : k ≤ 1000000) (h0' : 0 < k') (hk' : k' ≤ 1000000) : Calls Try.prog 18 #[.agg #[.bool b, .slice A n c, .slice D m e, .bool x], .agg #[.bool b', .slice A' n' c', .slice D' m' e', .bool x']] w (RetV w (.bool v)) := g_same w b A n c D m e x t k h b' A' n' c' D' m' e' x' t' k' h' h0 hk h0' hk' v hv
theorem TK.zero (w : World) : TK w false none 0 0 none 0 0 false tzero 1 := ⟨⟨⟨false, [], []⟩, ⟨rfl, Wd.nil_ w, Wd.nil_ w, Nat.zero_le _, Nat.zero_le _⟩, by rfl, by rfl⟩, rfl, tzero_ok⟩
end Go.Proofs.Ytmneloabphplmaa

/- Walks: TurnOrder. -/
namespace Go.Proofs.Ytmneloabphplmaa
open Go Go.RowKit Bn
attribute [local go_sem ↓] Go.wp_at_zero Go.wp_at_succ
theorem t_Cmp_v (w : World) (b : Bool) (A : Option Addr) (n c : Nat) (D : Option Addr) (m e : Nat) (x : Bool) (t : TN) (k : Nat) (h : TK w b A n c D m e x t k) (b' : Bool) (A' : Option Addr) (n' c' : Nat) (D' : Option Addr) (m' e' : Nat) (x' : Bool) (t' : TN) (k' : Nat) (h' : TK w b' A' n' c' D' m' e' x' t' k') (v : Int) (hv : tcmp t t' = v) (h0 : 0 < k) (hk : k ≤ 400000) (h0' : 0 < k') (hk' : k' ≤ 400000) : Calls Try.prog 20 #[.agg #[.bool b, .slice A n c, .slice D m e, .bool x], .agg #[.bool b', .slice A' n' c', .slice D' m' e', .bool x']] w (RetV w (.tuple #[.int .i64 v, .nilIface])) := by
  subst hv; exact t_Cmp w b A n c D m e x t k h b' A' n' c' D' m' e' x' t' k' h' h0 hk h0' hk'
theorem t_Inside_v (w : World) (b : Bool) (A : Option Addr) (n c : Nat) (D : Option Addr) (m e : Nat) (x : Bool) (t : TN) (k : Nat) (h : TK w b A n c D m e x t k) (b' : Bool) (A' : Option Addr) (n' c' : Nat) (D' : Option Addr) (m' e' : Nat) (x' : Bool) (t' : TN) (k' : Nat) (h' : TK w b' A' n' c' D' m' e' x' t' k') (b'' : Bool) (A'' : Option Addr) (n'' c'' : Nat) (D'' : Option Addr) (m'' e'' : Nat) (x'' : Bool) (t'' : TN) (k'' : Nat) (h'' : TK w b'' A'' n'' c'' D'' m'' e'' x'' t'' k'') (v : Bool) (hv : tinside t t' t'' = v) (h0 : 0 < k) (hk : k ≤ 200000) (h0' : 0 < k') (hk' : k' ≤ 200000) (h0'' : 0 < k'') (hk'' : k'' ≤ 200000) : Calls Try.prog 22 #[.agg #[.bool b, .slice A n c, .slice D m e, .bool x], .agg #[.bool b', .slice A' n' c', .slice D' m' e', .bool x'], .agg #[.bool b'', .slice A'' n'' c'', .slice D'' m'' e'', .bool x'']] w (RetV w (.tuple #[.bool v, .nilIface])) := by
  subst hv; exact t_Inside w b A n c D m e x t k h b' A' n' c' D' m' e' x' t' k' h' b'' A'' n'' c'' D'' m'' e'' x'' t'' k'' h'' h0 hk h0' hk' h0'' hk''
theorem tcmp_low (a b : TN) : -1 ≤ tcmp a b ∧ tcmp a b ≤ 1 := by
  unfold tcmp rcmp
  (repeat' split) <;> omega
theorem bne_false {u v : Int} (h : u = v) : (u != v) = false := by subst h; simp
set_option maxRecDepth 100000 in
set_option maxHeartbeats 8000000 in
/-- linkworklaw12.TurnOrder -/
theorem l_TurnOrder (w : World) (b : Bool) (A : Option Addr) (n c : Nat) (D : Option Addr) (m e : Nat) (ra : RD) (k : Nat) (Hra : QD w b A n c D m e ra k) (b' : Bool) (A' : Option Addr) (n' c' : Nat) (D' : Option Addr) (m' e' : Nat) (rb : RD) (k' : Nat) (Hrb : QD w b' A' n' c' D' m' e' rb k') (b2 : Bool) (A2 : Option Addr) (n2 c2 : Nat) (D2 : Option Addr) (m2 e2 : Nat) (rc : RD) (k2 : Nat) (Hrc : QD w b2 A2 n2 c2 D2 m2 e2 rc k2) (x x' x2 : Bool) :
    Calls Try.prog 5 #[.agg #[.bool b, .slice A n c, .slice D m e, .bool x], .agg #[.bool b', .slice A' n' c', .slice D' m' e', .bool x'], .agg #[.bool b2, .slice A2 n2 c2, .slice D2 m2 e2, .bool x2]] w (RetV w (.bool true)) := by
  go_enter Try.func5, Try.ntmps5
  go_wp2_with fail
  (with_reducible refine (l_awake _).mono ?_); rintro e w1 ⟨rfl, hb1⟩
  have q1 : Below w.heap.size w w1 := ((((Below.refl _ _).alloc (Nat.le_refl _) _).alloc (by simp) _).alloc (by simp <;> omega) _).trans (hb1.mono (by simp <;> omega))
  replace Hra := Hra.belw q1
  replace Hrb := Hrb.belw q1
  replace Hrc := Hrc.belw q1
  have x1_0 : Blk w1 (w.heap.size) 26 #[.bool b, .slice A n c, .slice D m e, .bool x] := (((blkAt _ _ _ (by simp)).alloc _).alloc _).below hb1 (by simp <;> omega)
  have x1_1 : Blk w1 (w.heap.size + 1) 26 #[.bool b', .slice A' n' c', .slice D' m' e', .bool x'] := ((blkAt _ _ _ (by simp)).alloc _).below hb1 (by simp <;> omega)
  have x1_2 : Blk w1 (w.heap.size + 1 + 1) 26 #[.bool b2, .slice A2 n2 c2, .slice D2 m2 e2, .bool x2] := (blkAt _ _ _ (by simp)).below hb1 (by simp)
  have bw1 : Below w.heap.size w w1 := (brefl w).trans (q1.mono (brefl w).size)
  have lw1 : w.heap.size + 3 ≤ w1.heap.size := by have := hb1.size; simp at this; omega
  clear hb1 q1
  have cx1_0_0 : w1.cell? ⟨w.heap.size, 0, none⟩ = some (.bool b) := x1_0.cell 0
  have cx1_0_1 : w1.cell? ⟨w.heap.size, 1, none⟩ = some (.slice A n c) := x1_0.cell 1
  have cx1_0_2 : w1.cell? ⟨w.heap.size, 2, none⟩ = some (.slice D m e) := x1_0.cell 2
  have cx1_0_3 : w1.cell? ⟨w.heap.size, 3, none⟩ = some (.bool x) := x1_0.cell 3
  have lx1_0_0 : w.heap.size < w1.heap.size := by have := x1_0.lt; omega
  have lx1_0_1 : w.heap.size < w1.heap.size + 1 := by have := x1_0.lt; omega
  have lx1_0_2 : w.heap.size < w1.heap.size + 2 := by have := x1_0.lt; omega
  have lx1_0_3 : w.heap.size < w1.heap.size + 3 := by have := x1_0.lt; omega
  have cx1_1_0 : w1.cell? ⟨w.heap.size + 1, 0, none⟩ = some (.bool b') := x1_1.cell 0
  have cx1_1_1 : w1.cell? ⟨w.heap.size + 1, 1, none⟩ = some (.slice A' n' c') := x1_1.cell 1
  have cx1_1_2 : w1.cell? ⟨w.heap.size + 1, 2, none⟩ = some (.slice D' m' e') := x1_1.cell 2
  have cx1_1_3 : w1.cell? ⟨w.heap.size + 1, 3, none⟩ = some (.bool x') := x1_1.cell 3
  have lx1_1_0 : w.heap.size + 1 < w1.heap.size := by have := x1_1.lt; omega
  have lx1_1_1 : w.heap.size < w1.heap.size := by have := x1_1.lt; omega
  have lx1_1_2 : w.heap.size < w1.heap.size + 1 := by have := x1_1.lt; omega
  have lx1_1_3 : w.heap.size < w1.heap.size + 2 := by have := x1_1.lt; omega
  have cx1_2_0 : w1.cell? ⟨w.heap.size + 1 + 1, 0, none⟩ = some (.bool b2) := x1_2.cell 0
  have cx1_2_1 : w1.cell? ⟨w.heap.size + 1 + 1, 1, none⟩ = some (.slice A2 n2 c2) := x1_2.cell 1
  have cx1_2_2 : w1.cell? ⟨w.heap.size + 1 + 1, 2, none⟩ = some (.slice D2 m2 e2) := x1_2.cell 2
  have cx1_2_3 : w1.cell? ⟨w.heap.size + 1 + 1, 3, none⟩ = some (.bool x2) := x1_2.cell 3
  have lx1_2_0 : w.heap.size + 2 < w1.heap.size := by have := x1_2.lt; omega
  have lx1_2_1 : w.heap.size + 1 < w1.heap.size := by have := x1_2.lt; omega
  have lx1_2_2 : w.heap.size < w1.heap.size := by have := x1_2.lt; omega
  have lx1_2_3 : w.heap.size < w1.heap.size + 1 := by have := x1_2.lt; omega
  go_wp2_with fail
  (with_reducible refine (l_short _ (w1.heap.size) 3 (fun i : Nat => if i = 0 then n else if i = 1 then n' else n2) (fun i : Nat => if i = 0 then m else if i = 1 then m' else m2) ?_ ?_).mono ?_); (exact rs3 (blkAt _ _ _ (by simp))); (decide); rintro e w2 ⟨r2, rfl, hr2, hb2⟩
  clear cx1_0_0 cx1_0_1 cx1_0_2 cx1_0_3 lx1_0_0 lx1_0_1 lx1_0_2 lx1_0_3 cx1_1_0 cx1_1_1 cx1_1_2 cx1_1_3 lx1_1_0 lx1_1_1 lx1_1_2 lx1_1_3 cx1_2_0 cx1_2_1 cx1_2_2 cx1_2_3 lx1_2_0 lx1_2_1 lx1_2_2 lx1_2_3
  have q2 : Below w1.heap.size w1 w2 := ((Below.refl _ _).alloc (Nat.le_refl _) _).trans (hb2.mono (by simp))
  replace Hra := Hra.belw q2
  replace Hrb := Hrb.belw q2
  replace Hrc := Hrc.belw q2
  replace x1_0 : Blk w2 (w.heap.size) 26 #[.bool b, .slice A n c, .slice D m e, .bool x] := x1_0.below q2 x1_0.lt
  replace x1_1 : Blk w2 (w.heap.size + 1) 26 #[.bool b', .slice A' n' c', .slice D' m' e', .bool x'] := x1_1.below q2 x1_1.lt
  replace x1_2 : Blk w2 (w.heap.size + 1 + 1) 26 #[.bool b2, .slice A2 n2 c2, .slice D2 m2 e2, .bool x2] := x1_2.below q2 x1_2.lt
  have x2_0 : Blk w2 (w1.heap.size) 24 #[.bool b, .slice A n c, .slice D m e, .bool b', .slice A' n' c', .slice D' m' e', .bool b2, .slice A2 n2 c2, .slice D2 m2 e2] := (blkAt _ _ _ (by simp)).below hb2 (by simp)
  have bw2 : Below w.heap.size w w2 := bw1.trans (q2.mono bw1.size)
  have lw2 : w1.heap.size + 1 ≤ w2.heap.size := by have := hb2.size; simp at this; omega
  clear hb2 q2 bw1
  have cx1_0_0 : w2.cell? ⟨w.heap.size, 0, none⟩ = some (.bool b) := x1_0.cell 0
  have cx1_0_1 : w2.cell? ⟨w.heap.size, 1, none⟩ = some (.slice A n c) := x1_0.cell 1
  have cx1_0_2 : w2.cell? ⟨w.heap.size, 2, none⟩ = some (.slice D m e) := x1_0.cell 2
  have cx1_0_3 : w2.cell? ⟨w.heap.size, 3, none⟩ = some (.bool x) := x1_0.cell 3
  have lx1_0_0 : w.heap.size < w2.heap.size := by have := x1_0.lt; omega
  have lx1_0_1 : w.heap.size < w2.heap.size + 1 := by have := x1_0.lt; omega
  have lx1_0_2 : w.heap.size < w2.heap.size + 2 := by have := x1_0.lt; omega
  have lx1_0_3 : w.heap.size < w2.heap.size + 3 := by have := x1_0.lt; omega
  have cx1_1_0 : w2.cell? ⟨w.heap.size + 1, 0, none⟩ = some (.bool b') := x1_1.cell 0
  have cx1_1_1 : w2.cell? ⟨w.heap.size + 1, 1, none⟩ = some (.slice A' n' c') := x1_1.cell 1
  have cx1_1_2 : w2.cell? ⟨w.heap.size + 1, 2, none⟩ = some (.slice D' m' e') := x1_1.cell 2
  have cx1_1_3 : w2.cell? ⟨w.heap.size + 1, 3, none⟩ = some (.bool x') := x1_1.cell 3
  have lx1_1_0 : w.heap.size + 1 < w2.heap.size := by have := x1_1.lt; omega
  have lx1_1_1 : w.heap.size < w2.heap.size := by have := x1_1.lt; omega
  have lx1_1_2 : w.heap.size < w2.heap.size + 1 := by have := x1_1.lt; omega
  have lx1_1_3 : w.heap.size < w2.heap.size + 2 := by have := x1_1.lt; omega
  have cx1_2_0 : w2.cell? ⟨w.heap.size + 1 + 1, 0, none⟩ = some (.bool b2) := x1_2.cell 0
  have cx1_2_1 : w2.cell? ⟨w.heap.size + 1 + 1, 1, none⟩ = some (.slice A2 n2 c2) := x1_2.cell 1
  have cx1_2_2 : w2.cell? ⟨w.heap.size + 1 + 1, 2, none⟩ = some (.slice D2 m2 e2) := x1_2.cell 2
  have cx1_2_3 : w2.cell? ⟨w.heap.size + 1 + 1, 3, none⟩ = some (.bool x2) := x1_2.cell 3
  have lx1_2_0 : w.heap.size + 2 < w2.heap.size := by have := x1_2.lt; omega
  have lx1_2_1 : w.heap.size + 1 < w2.heap.size := by have := x1_2.lt; omega
  have lx1_2_2 : w.heap.size < w2.heap.size := by have := x1_2.lt; omega
  have lx1_2_3 : w.heap.size < w2.heap.size + 1 := by have := x1_2.lt; omega
  cases r2
  · go_wp2_with fail
    (with_reducible refine (l_awake _).mono ?_); rintro e w3 ⟨rfl, hb3⟩
    clear cx1_0_0 cx1_0_1 cx1_0_2 cx1_0_3 lx1_0_0 lx1_0_1 lx1_0_2 lx1_0_3 cx1_1_0 cx1_1_1 cx1_1_2 cx1_1_3 lx1_1_0 lx1_1_1 lx1_1_2 lx1_1_3 cx1_2_0 cx1_2_1 cx1_2_2 cx1_2_3 lx1_2_0 lx1_2_1 lx1_2_2 lx1_2_3
    have q3 : Below w2.heap.size w2 w3 := hb3
    replace Hra := Hra.belw q3
    replace Hrb := Hrb.belw q3
    replace Hrc := Hrc.belw q3
    replace x1_0 : Blk w3 (w.heap.size) 26 #[.bool b, .slice A n c, .slice D m e, .bool x] := x1_0.below q3 x1_0.lt
    replace x1_1 : Blk w3 (w.heap.size + 1) 26 #[.bool b', .slice A' n' c', .slice D' m' e', .bool x'] := x1_1.below q3 x1_1.lt
    replace x1_2 : Blk w3 (w.heap.size + 1 + 1) 26 #[.bool b2, .slice A2 n2 c2, .slice D2 m2 e2, .bool x2] := x1_2.below q3 x1_2.lt
    replace x2_0 : Blk w3 (w1.heap.size) 24 #[.bool b, .slice A n c, .slice D m e, .bool b', .slice A' n' c', .slice D' m' e', .bool b2, .slice A2 n2 c2, .slice D2 m2 e2] := x2_0.below q3 x2_0.lt
    have bw3 : Below w.heap.size w w3 := bw2.trans (q3.mono bw2.size)
    have lw3 : w2.heap.size ≤ w3.heap.size := q3.size
    clear hb3 q3 bw2
    go_wp2_with fail
    go_ret
    exact retB rfl bw3
  · have hs0 := hr2 rfl 0 (by decide)
    have hs1 := hr2 rfl 1 (by decide)
    have hs2 := hr2 rfl 2 (by decide)
    clear hr2
    replace Hra := QD.short Hra hs0
    replace Hrb := QD.short Hrb hs1
    replace Hrc := QD.short Hrc hs2
    clear hs0 hs1 hs2
    go_wp2_with fail
    (with_reducible refine (l_good _ (w2.heap.size) 3 (6) (fun i : Nat => if i = 0 then (ra) else if i = 1 then (rb) else (rc)) (fun i : Nat => if i = 0 then x else if i = 1 then x' else x2) ?_ ?_ ?_ ?_).mono ?_); (exact gs3 (blkAt _ _ _ (by simp)) ((Hra.belw ((Below.refl _ _).alloc (Nat.le_refl _) _))) ((Hrb.belw ((Below.refl _ _).alloc (Nat.le_refl _) _))) ((Hrc.belw ((Below.refl _ _).alloc (Nat.le_refl _) _)))); (decide); (decide); (decide); rintro e w3 ⟨r3, rfl, hr3, hb3⟩
    clear cx1_0_0 cx1_0_1 cx1_0_2 cx1_0_3 lx1_0_0 lx1_0_1 lx1_0_2 lx1_0_3 cx1_1_0 cx1_1_1 cx1_1_2 cx1_1_3 lx1_1_0 lx1_1_1 lx1_1_2 lx1_1_3 cx1_2_0 cx1_2_1 cx1_2_2 cx1_2_3 lx1_2_0 lx1_2_1 lx1_2_2 lx1_2_3
    have q3 : Below w2.heap.size w2 w3 := ((Below.refl _ _).alloc (Nat.le_refl _) _).trans (hb3.mono (by simp))
    replace Hra := Hra.belw q3
    replace Hrb := Hrb.belw q3
    replace Hrc := Hrc.belw q3
    replace x1_0 : Blk w3 (w.heap.size) 26 #[.bool b, .slice A n c, .slice D m e, .bool x] := x1_0.below q3 x1_0.lt
    replace x1_1 : Blk w3 (w.heap.size + 1) 26 #[.bool b', .slice A' n' c', .slice D' m' e', .bool x'] := x1_1.below q3 x1_1.lt
    replace x1_2 : Blk w3 (w.heap.size + 1 + 1) 26 #[.bool b2, .slice A2 n2 c2, .slice D2 m2 e2, .bool x2] := x1_2.below q3 x1_2.lt
    replace x2_0 : Blk w3 (w1.heap.size) 24 #[.bool b, .slice A n c, .slice D m e, .bool b', .slice A' n' c', .slice D' m' e', .bool b2, .slice A2 n2 c2, .slice D2 m2 e2] := x2_0.below q3 x2_0.lt
    have x3_0 : Blk w3 (w2.heap.size) 26 #[.bool b, .slice A n c, .slice D m e, .bool x, .bool b', .slice A' n' c', .slice D' m' e', .bool x', .bool b2, .slice A2 n2 c2, .slice D2 m2 e2, .bool x2] := (blkAt _ _ _ (by simp)).below hb3 (by simp)
    have bw3 : Below w.heap.size w w3 := bw2.trans (q3.mono bw2.size)
    have lw3 : w2.heap.size + 1 ≤ w3.heap.size := by have := hb3.size; simp at this; omega
    clear hb3 q3 bw2
    have cx1_0_0 : w3.cell? ⟨w.heap.size, 0, none⟩ = some (.bool b) := x1_0.cell 0
    have cx1_0_1 : w3.cell? ⟨w.heap.size, 1, none⟩ = some (.slice A n c) := x1_0.cell 1
    have cx1_0_2 : w3.cell? ⟨w.heap.size, 2, none⟩ = some (.slice D m e) := x1_0.cell 2
    have cx1_0_3 : w3.cell? ⟨w.heap.size, 3, none⟩ = some (.bool x) := x1_0.cell 3
    have lx1_0_0 : w.heap.size < w3.heap.size := by have := x1_0.lt; omega
    have lx1_0_1 : w.heap.size < w3.heap.size + 1 := by have := x1_0.lt; omega
    have lx1_0_2 : w.heap.size < w3.heap.size + 2 := by have := x1_0.lt; omega
    have lx1_0_3 : w.heap.size < w3.heap.size + 3 := by have := x1_0.lt; omega
    have cx1_1_0 : w3.cell? ⟨w.heap.size + 1, 0, none⟩ = some (.bool b') := x1_1.cell 0
    have cx1_1_1 : w3.cell? ⟨w.heap.size + 1, 1, none⟩ = some (.slice A' n' c') := x1_1.cell 1
    have cx1_1_2 : w3.cell? ⟨w.heap.size + 1, 2, none⟩ = some (.slice D' m' e') := x1_1.cell 2
    have cx1_1_3 : w3.cell? ⟨w.heap.size + 1, 3, none⟩ = some (.bool x') := x1_1.cell 3
    have lx1_1_0 : w.heap.size + 1 < w3.heap.size := by have := x1_1.lt; omega
    have lx1_1_1 : w.heap.size < w3.heap.size := by have := x1_1.lt; omega
    have lx1_1_2 : w.heap.size < w3.heap.size + 1 := by have := x1_1.lt; omega
    have lx1_1_3 : w.heap.size < w3.heap.size + 2 := by have := x1_1.lt; omega
    cases r3
    · go_wp2_with fail
      (with_reducible refine (l_awake _).mono ?_); rintro e w4 ⟨rfl, hb4⟩
      clear cx1_0_0 cx1_0_1 cx1_0_2 cx1_0_3 lx1_0_0 lx1_0_1 lx1_0_2 lx1_0_3 cx1_1_0 cx1_1_1 cx1_1_2 cx1_1_3 lx1_1_0 lx1_1_1 lx1_1_2 lx1_1_3
      have q4 : Below w3.heap.size w3 w4 := hb4
      replace Hra := Hra.belw q4
      replace Hrb := Hrb.belw q4
      replace Hrc := Hrc.belw q4
      replace x1_0 : Blk w4 (w.heap.size) 26 #[.bool b, .slice A n c, .slice D m e, .bool x] := x1_0.below q4 x1_0.lt
      replace x1_1 : Blk w4 (w.heap.size + 1) 26 #[.bool b', .slice A' n' c', .slice D' m' e', .bool x'] := x1_1.below q4 x1_1.lt
      replace x1_2 : Blk w4 (w.heap.size + 1 + 1) 26 #[.bool b2, .slice A2 n2 c2, .slice D2 m2 e2, .bool x2] := x1_2.below q4 x1_2.lt
      replace x2_0 : Blk w4 (w1.heap.size) 24 #[.bool b, .slice A n c, .slice D m e, .bool b', .slice A' n' c', .slice D' m' e', .bool b2, .slice A2 n2 c2, .slice D2 m2 e2] := x2_0.below q4 x2_0.lt
      replace x3_0 : Blk w4 (w2.heap.size) 26 #[.bool b, .slice A n c, .slice D m e, .bool x, .bool b', .slice A' n' c', .slice D' m' e', .bool x', .bool b2, .slice A2 n2 c2, .slice D2 m2 e2, .bool x2] := x3_0.below q4 x3_0.lt
      have bw4 : Below w.heap.size w w4 := bw3.trans (q4.mono bw3.size)
      have lw4 : w3.heap.size ≤ w4.heap.size := q4.size
      clear hb4 q4 bw3
      go_wp2_with fail
      go_ret
      exact retB rfl bw4
    · have hTa : TK w3 b A n c D m e x ⟨ra.q, x⟩ 6 := acc_tk Hra (hr3 rfl 0 (by decide))
      have hTb : TK w3 b' A' n' c' D' m' e' x' ⟨rb.q, x'⟩ 6 := acc_tk Hrb (hr3 rfl 1 (by decide))
      have hTc : TK w3 b2 A2 n2 c2 D2 m2 e2 x2 ⟨rc.q, x2⟩ 6 := acc_tk Hrc (hr3 rfl 2 (by decide))
      clear hr3
      have HOK := Lib.hid (And.intro hTa.2.2 (And.intro hTb.2.2 hTc.2.2))
      clear Hra Hrb Hrc
      go_wp2_with fail
      obtain ⟨u, hu⟩ : ∃ u, tcmp ⟨ra.q, x⟩ ⟨rb.q, x'⟩ = u := ⟨_, rfl⟩
      obtain ⟨v, hv⟩ : ∃ v, tcmp ⟨rb.q, x'⟩ ⟨rc.q, x2⟩ = v := ⟨_, rfl⟩
      obtain ⟨z, hz⟩ : ∃ z, tcmp ⟨ra.q, x⟩ ⟨rc.q, x2⟩ = z := ⟨_, rfl⟩
      have hu1 : -1 ≤ u := hu ▸ (tcmp_low _ _).1
      have hu2 : u ≤ 1 := hu ▸ (tcmp_low _ _).2
      have HU := Lib.hid hu
      have HU2 := Lib.hid (show tcmp ⟨rb.q, x'⟩ ⟨ra.q, x⟩ = -u by rw [tcmp_neg, hu])
      have HV := Lib.hid hv
      have HZ := Lib.hid hz
      clear hu hv hz
      (with_reducible refine (t_Cmp_v _ b A n c D m e x (⟨ra.q, x⟩) (6) ?_ b' A' n' c' D' m' e' x' (⟨rb.q, x'⟩) (6) ?_ u ?_ ?_ ?_ ?_ ?_).mono ?_); (exact hTa); (exact hTb); (exact HU.out); (first | omega | decide | assumption); (first | omega | decide | assumption); (first | omega | decide | assumption); (first | omega | decide | assumption); rintro e w4 ⟨rfl, hb4⟩
      clear cx1_0_0 cx1_0_1 cx1_0_2 cx1_0_3 lx1_0_0 lx1_0_1 lx1_0_2 lx1_0_3 cx1_1_0 cx1_1_1 cx1_1_2 cx1_1_3 lx1_1_0 lx1_1_1 lx1_1_2 lx1_1_3
      have q4 : Below w3.heap.size w3 w4 := hb4
      replace hTa := hTa.belw q4
      replace hTb := hTb.belw q4
      replace hTc := hTc.belw q4
      replace x1_0 : Blk w4 (w.heap.size) 26 #[.bool b, .slice A n c, .slice D m e, .bool x] := x1_0.below q4 x1_0.lt
      replace x1_1 : Blk w4 (w.heap.size + 1) 26 #[.bool b', .slice A' n' c', .slice D' m' e', .bool x'] := x1_1.below q4 x1_1.lt
      replace x1_2 : Blk w4 (w.heap.size + 1 + 1) 26 #[.bool b2, .slice A2 n2 c2, .slice D2 m2 e2, .bool x2] := x1_2.below q4 x1_2.lt
      replace x2_0 : Blk w4 (w1.heap.size) 24 #[.bool b, .slice A n c, .slice D m e, .bool b', .slice A' n' c', .slice D' m' e', .bool b2, .slice A2 n2 c2, .slice D2 m2 e2] := x2_0.below q4 x2_0.lt
      replace x3_0 : Blk w4 (w2.heap.size) 26 #[.bool b, .slice A n c, .slice D m e, .bool x, .bool b', .slice A' n' c', .slice D' m' e', .bool x', .bool b2, .slice A2 n2 c2, .slice D2 m2 e2, .bool x2] := x3_0.below q4 x3_0.lt
      have bw4 : Below w.heap.size w w4 := bw3.trans (q4.mono bw3.size)
      have lw4 : w3.heap.size ≤ w4.heap.size := q4.size
      clear hb4 q4 bw3
      have cx1_0_0 : w4.cell? ⟨w.heap.size, 0, none⟩ = some (.bool b) := x1_0.cell 0
      have cx1_0_1 : w4.cell? ⟨w.heap.size, 1, none⟩ = some (.slice A n c) := x1_0.cell 1
      have cx1_0_2 : w4.cell? ⟨w.heap.size, 2, none⟩ = some (.slice D m e) := x1_0.cell 2
      have cx1_0_3 : w4.cell? ⟨w.heap.size, 3, none⟩ = some (.bool x) := x1_0.cell 3
      have lx1_0_0 : w.heap.size < w4.heap.size := by have := x1_0.lt; omega
      have lx1_0_1 : w.heap.size < w4.heap.size + 1 := by have := x1_0.lt; omega
      have lx1_0_2 : w.heap.size < w4.heap.size + 2 := by have := x1_0.lt; omega
      have lx1_0_3 : w.heap.size < w4.heap.size + 3 := by have := x1_0.lt; omega
      have cx1_1_0 : w4.cell? ⟨w.heap.size + 1, 0, none⟩ = some (.bool b') := x1_1.cell 0
      have cx1_1_1 : w4.cell? ⟨w.heap.size + 1, 1, none⟩ = some (.slice A' n' c') := x1_1.cell 1
      have cx1_1_2 : w4.cell? ⟨w.heap.size + 1, 2, none⟩ = some (.slice D' m' e') := x1_1.cell 2
      have cx1_1_3 : w4.cell? ⟨w.heap.size + 1, 3, none⟩ = some (.bool x') := x1_1.cell 3
      have lx1_1_0 : w.heap.size + 1 < w4.heap.size := by have := x1_1.lt; omega
      have lx1_1_1 : w.heap.size < w4.heap.size := by have := x1_1.lt; omega
      have lx1_1_2 : w.heap.size < w4.heap.size + 1 := by have := x1_1.lt; omega
      have lx1_1_3 : w.heap.size < w4.heap.size + 2 := by have := x1_1.lt; omega
      go_wp2_with fail
      (with_reducible refine (t_Cmp_v _ b' A' n' c' D' m' e' x' (⟨rb.q, x'⟩) (6) ?_ b A n c D m e x (⟨ra.q, x⟩) (6) ?_ (-u) ?_ ?_ ?_ ?_ ?_).mono ?_); (exact hTb); (exact hTa); (exact HU2.out); (first | omega | decide | assumption); (first | omega | decide | assumption); (first | omega | decide | assumption); (first | omega | decide | assumption); rintro e w5 ⟨rfl, hb5⟩
      clear cx1_0_0 cx1_0_1 cx1_0_2 cx1_0_3 lx1_0_0 lx1_0_1 lx1_0_2 lx1_0_3 cx1_1_0 cx1_1_1 cx1_1_2 cx1_1_3 lx1_1_0 lx1_1_1 lx1_1_2 lx1_1_3
      have q5 : Below w4.heap.size w4 w5 := hb5
      replace hTa := hTa.belw q5
      replace hTb := hTb.belw q5
      replace hTc := hTc.belw q5
      replace x1_0 : Blk w5 (w.heap.size) 26 #[.bool b, .slice A n c, .slice D m e, .bool x] := x1_0.below q5 x1_0.lt
      replace x1_1 : Blk w5 (w.heap.size + 1) 26 #[.bool b', .slice A' n' c', .slice D' m' e', .bool x'] := x1_1.below q5 x1_1.lt
      replace x1_2 : Blk w5 (w.heap.size + 1 + 1) 26 #[.bool b2, .slice A2 n2 c2, .slice D2 m2 e2, .bool x2] := x1_2.below q5 x1_2.lt
      replace x2_0 : Blk w5 (w1.heap.size) 24 #[.bool b, .slice A n c, .slice D m e, .bool b', .slice A' n' c', .slice D' m' e', .bool b2, .slice A2 n2 c2, .slice D2 m2 e2] := x2_0.below q5 x2_0.lt
      replace x3_0 : Blk w5 (w2.heap.size) 26 #[.bool b, .slice A n c, .slice D m e, .bool x, .bool b', .slice A' n' c', .slice D' m' e', .bool x', .bool b2, .slice A2 n2 c2, .slice D2 m2 e2, .bool x2] := x3_0.below q5 x3_0.lt
      have bw5 : Below w.heap.size w w5 := bw4.trans (q5.mono bw4.size)
      have lw5 : w4.heap.size ≤ w5.heap.size := q5.size
      clear hb5 q5 bw4
      have cx1_1_0 : w5.cell? ⟨w.heap.size + 1, 0, none⟩ = some (.bool b') := x1_1.cell 0
      have cx1_1_1 : w5.cell? ⟨w.heap.size + 1, 1, none⟩ = some (.slice A' n' c') := x1_1.cell 1
      have cx1_1_2 : w5.cell? ⟨w.heap.size + 1, 2, none⟩ = some (.slice D' m' e') := x1_1.cell 2
      have cx1_1_3 : w5.cell? ⟨w.heap.size + 1, 3, none⟩ = some (.bool x') := x1_1.cell 3
      have lx1_1_0 : w.heap.size + 1 < w5.heap.size := by have := x1_1.lt; omega
      have lx1_1_1 : w.heap.size < w5.heap.size := by have := x1_1.lt; omega
      have lx1_1_2 : w.heap.size < w5.heap.size + 1 := by have := x1_1.lt; omega
      have lx1_1_3 : w.heap.size < w5.heap.size + 2 := by have := x1_1.lt; omega
      have cx1_2_0 : w5.cell? ⟨w.heap.size + 1 + 1, 0, none⟩ = some (.bool b2) := x1_2.cell 0
      have cx1_2_1 : w5.cell? ⟨w.heap.size + 1 + 1, 1, none⟩ = some (.slice A2 n2 c2) := x1_2.cell 1
      have cx1_2_2 : w5.cell? ⟨w.heap.size + 1 + 1, 2, none⟩ = some (.slice D2 m2 e2) := x1_2.cell 2
      have cx1_2_3 : w5.cell? ⟨w.heap.size + 1 + 1, 3, none⟩ = some (.bool x2) := x1_2.cell 3
      have lx1_2_0 : w.heap.size + 2 < w5.heap.size := by have := x1_2.lt; omega
      have lx1_2_1 : w.heap.size + 1 < w5.heap.size := by have := x1_2.lt; omega
      have lx1_2_2 : w.heap.size < w5.heap.size := by have := x1_2.lt; omega
      have lx1_2_3 : w.heap.size < w5.heap.size + 1 := by have := x1_2.lt; omega
      go_wp2_with fail
      (with_reducible refine (t_Cmp_v _ b' A' n' c' D' m' e' x' (⟨rb.q, x'⟩) (6) ?_ b2 A2 n2 c2 D2 m2 e2 x2 (⟨rc.q, x2⟩) (6) ?_ v ?_ ?_ ?_ ?_ ?_).mono ?_); (exact hTb); (exact hTc); (exact HV.out); (first | omega | decide | assumption); (first | omega | decide | assumption); (first | omega | decide | assumption); (first | omega | decide | assumption); rintro e w6 ⟨rfl, hb6⟩
      clear cx1_1_0 cx1_1_1 cx1_1_2 cx1_1_3 lx1_1_0 lx1_1_1 lx1_1_2 lx1_1_3 cx1_2_0 cx1_2_1 cx1_2_2 cx1_2_3 lx1_2_0 lx1_2_1 lx1_2_2 lx1_2_3
      have q6 : Below w5.heap.size w5 w6 := hb6
      replace hTa := hTa.belw q6
      replace hTb := hTb.belw q6
      replace hTc := hTc.belw q6
      replace x1_0 : Blk w6 (w.heap.size) 26 #[.bool b, .slice A n c, .slice D m e, .bool x] := x1_0.below q6 x1_0.lt
      replace x1_1 : Blk w6 (w.heap.size + 1) 26 #[.bool b', .slice A' n' c', .slice D' m' e', .bool x'] := x1_1.below q6 x1_1.lt
      replace x1_2 : Blk w6 (w.heap.size + 1 + 1) 26 #[.bool b2, .slice A2 n2 c2, .slice D2 m2 e2, .bool x2] := x1_2.below q6 x1_2.lt
      replace x2_0 : Blk w6 (w1.heap.size) 24 #[.bool b, .slice A n c, .slice D m e, .bool b', .slice A' n' c', .slice D' m' e', .bool b2, .slice A2 n2 c2, .slice D2 m2 e2] := x2_0.below q6 x2_0.lt
      replace x3_0 : Blk w6 (w2.heap.size) 26 #[.bool b, .slice A n c, .slice D m e, .bool x, .bool b', .slice A' n' c', .slice D' m' e', .bool x', .bool b2, .slice A2 n2 c2, .slice D2 m2 e2, .bool x2] := x3_0.below q6 x3_0.lt
      have bw6 : Below w.heap.size w w6 := bw5.trans (q6.mono bw5.size)
      have lw6 : w5.heap.size ≤ w6.heap.size := q6.size
      clear hb6 q6 bw5
      have cx1_0_0 : w6.cell? ⟨w.heap.size, 0, none⟩ = some (.bool b) := x1_0.cell 0
      have cx1_0_1 : w6.cell? ⟨w.heap.size, 1, none⟩ = some (.slice A n c) := x1_0.cell 1
      have cx1_0_2 : w6.cell? ⟨w.heap.size, 2, none⟩ = some (.slice D m e) := x1_0.cell 2
      have cx1_0_3 : w6.cell? ⟨w.heap.size, 3, none⟩ = some (.bool x) := x1_0.cell 3
      have lx1_0_0 : w.heap.size < w6.heap.size := by have := x1_0.lt; omega
      have lx1_0_1 : w.heap.size < w6.heap.size + 1 := by have := x1_0.lt; omega
      have lx1_0_2 : w.heap.size < w6.heap.size + 2 := by have := x1_0.lt; omega
      have lx1_0_3 : w.heap.size < w6.heap.size + 3 := by have := x1_0.lt; omega
      have cx1_2_0 : w6.cell? ⟨w.heap.size + 1 + 1, 0, none⟩ = some (.bool b2) := x1_2.cell 0
      have cx1_2_1 : w6.cell? ⟨w.heap.size + 1 + 1, 1, none⟩ = some (.slice A2 n2 c2) := x1_2.cell 1
      have cx1_2_2 : w6.cell? ⟨w.heap.size + 1 + 1, 2, none⟩ = some (.slice D2 m2 e2) := x1_2.cell 2
      have cx1_2_3 : w6.cell? ⟨w.heap.size + 1 + 1, 3, none⟩ = some (.bool x2) := x1_2.cell 3
      have lx1_2_0 : w.heap.size + 2 < w6.heap.size := by have := x1_2.lt; omega
      have lx1_2_1 : w.heap.size + 1 < w6.heap.size := by have := x1_2.lt; omega
      have lx1_2_2 : w.heap.size < w6.heap.size := by have := x1_2.lt; omega
      have lx1_2_3 : w.heap.size < w6.heap.size + 1 := by have := x1_2.lt; omega
      go_wp2_with fail
      (with_reducible refine (t_Cmp_v _ b A n c D m e x (⟨ra.q, x⟩) (6) ?_ b2 A2 n2 c2 D2 m2 e2 x2 (⟨rc.q, x2⟩) (6) ?_ z ?_ ?_ ?_ ?_ ?_).mono ?_); (exact hTa); (exact hTc); (exact HZ.out); (first | omega | decide | assumption); (first | omega | decide | assumption); (first | omega | decide | assumption); (first | omega | decide | assumption); rintro e w7 ⟨rfl, hb7⟩
      clear cx1_0_0 cx1_0_1 cx1_0_2 cx1_0_3 lx1_0_0 lx1_0_1 lx1_0_2 lx1_0_3 cx1_2_0 cx1_2_1 cx1_2_2 cx1_2_3 lx1_2_0 lx1_2_1 lx1_2_2 lx1_2_3
      have q7 : Below w6.heap.size w6 w7 := hb7
      replace hTa := hTa.belw q7
      replace hTb := hTb.belw q7
      replace hTc := hTc.belw q7
      replace x1_0 : Blk w7 (w.heap.size) 26 #[.bool b, .slice A n c, .slice D m e, .bool x] := x1_0.below q7 x1_0.lt
      replace x1_1 : Blk w7 (w.heap.size + 1) 26 #[.bool b', .slice A' n' c', .slice D' m' e', .bool x'] := x1_1.below q7 x1_1.lt
      replace x1_2 : Blk w7 (w.heap.size + 1 + 1) 26 #[.bool b2, .slice A2 n2 c2, .slice D2 m2 e2, .bool x2] := x1_2.below q7 x1_2.lt
      replace x2_0 : Blk w7 (w1.heap.size) 24 #[.bool b, .slice A n c, .slice D m e, .bool b', .slice A' n' c', .slice D' m' e', .bool b2, .slice A2 n2 c2, .slice D2 m2 e2] := x2_0.below q7 x2_0.lt
      replace x3_0 : Blk w7 (w2.heap.size) 26 #[.bool b, .slice A n c, .slice D m e, .bool x, .bool b', .slice A' n' c', .slice D' m' e', .bool x', .bool b2, .slice A2 n2 c2, .slice D2 m2 e2, .bool x2] := x3_0.below q7 x3_0.lt
      have bw7 : Below w.heap.size w w7 := bw6.trans (q7.mono bw6.size)
      have lw7 : w6.heap.size ≤ w7.heap.size := q7.size
      clear hb7 q7 bw6
      have cx1_0_0 : w7.cell? ⟨w.heap.size, 0, none⟩ = some (.bool b) := x1_0.cell 0
      have cx1_0_1 : w7.cell? ⟨w.heap.size, 1, none⟩ = some (.slice A n c) := x1_0.cell 1
      have cx1_0_2 : w7.cell? ⟨w.heap.size, 2, none⟩ = some (.slice D m e) := x1_0.cell 2
      have cx1_0_3 : w7.cell? ⟨w.heap.size, 3, none⟩ = some (.bool x) := x1_0.cell 3
      have lx1_0_0 : w.heap.size < w7.heap.size := by have := x1_0.lt; omega
      have lx1_0_1 : w.heap.size < w7.heap.size + 1 := by have := x1_0.lt; omega
      have lx1_0_2 : w.heap.size < w7.heap.size + 2 := by have := x1_0.lt; omega
      have lx1_0_3 : w.heap.size < w7.heap.size + 3 := by have := x1_0.lt; omega
      have cx1_1_0 : w7.cell? ⟨w.heap.size + 1, 0, none⟩ = some (.bool b') := x1_1.cell 0
      have cx1_1_1 : w7.cell? ⟨w.heap.size + 1, 1, none⟩ = some (.slice A' n' c') := x1_1.cell 1
      have cx1_1_2 : w7.cell? ⟨w.heap.size + 1, 2, none⟩ = some (.slice D' m' e') := x1_1.cell 2
      have cx1_1_3 : w7.cell? ⟨w.heap.size + 1, 3, none⟩ = some (.bool x') := x1_1.cell 3
      have lx1_1_0 : w.heap.size + 1 < w7.heap.size := by have := x1_1.lt; omega
      have lx1_1_1 : w.heap.size < w7.heap.size := by have := x1_1.lt; omega
      have lx1_1_2 : w.heap.size < w7.heap.size + 1 := by have := x1_1.lt; omega
      have lx1_1_3 : w.heap.size < w7.heap.size + 2 := by have := x1_1.lt; omega
      go_wp2_with fail
      (with_reducible refine (t_Between _ b A n c D m e x (⟨ra.q, x⟩) (6) ?_ b' A' n' c' D' m' e' x' (⟨rb.q, x'⟩) (6) ?_ ?_ ?_ ?_ ?_).mono ?_); (exact hTa); (exact hTb); (first | omega | decide | assumption); (first | omega | decide | assumption); (first | omega | decide | assumption); (first | omega | decide | assumption); rintro e w8 ⟨b8, A8, n8, c8, A'8, n'8, c'8, x8, rfl, h8, hb8⟩
      clear cx1_0_0 cx1_0_1 cx1_0_2 cx1_0_3 lx1_0_0 lx1_0_1 lx1_0_2 lx1_0_3 cx1_1_0 cx1_1_1 cx1_1_2 cx1_1_3 lx1_1_0 lx1_1_1 lx1_1_2 lx1_1_3
      have q8 : Below w7.heap.size w7 w8 := hb8
      replace hTa := hTa.belw q8
      replace hTb := hTb.belw q8
      replace hTc := hTc.belw q8
      replace x1_0 : Blk w8 (w.heap.size) 26 #[.bool b, .slice A n c, .slice D m e, .bool x] := x1_0.below q8 x1_0.lt
      replace x1_1 : Blk w8 (w.heap.size + 1) 26 #[.bool b', .slice A' n' c', .slice D' m' e', .bool x'] := x1_1.below q8 x1_1.lt
      replace x1_2 : Blk w8 (w.heap.size + 1 + 1) 26 #[.bool b2, .slice A2 n2 c2, .slice D2 m2 e2, .bool x2] := x1_2.below q8 x1_2.lt
      replace x2_0 : Blk w8 (w1.heap.size) 24 #[.bool b, .slice A n c, .slice D m e, .bool b', .slice A' n' c', .slice D' m' e', .bool b2, .slice A2 n2 c2, .slice D2 m2 e2] := x2_0.below q8 x2_0.lt
      replace x3_0 : Blk w8 (w2.heap.size) 26 #[.bool b, .slice A n c, .slice D m e, .bool x, .bool b', .slice A' n' c', .slice D' m' e', .bool x', .bool b2, .slice A2 n2 c2, .slice D2 m2 e2, .bool x2] := x3_0.below q8 x3_0.lt
      have bw8 : Below w.heap.size w w8 := bw7.trans (q8.mono bw7.size)
      have lw8 : w7.heap.size ≤ w8.heap.size := q8.size
      clear hb8 q8 bw7
      have cx1_0_0 : w8.cell? ⟨w.heap.size, 0, none⟩ = some (.bool b) := x1_0.cell 0
      have cx1_0_1 : w8.cell? ⟨w.heap.size, 1, none⟩ = some (.slice A n c) := x1_0.cell 1
      have cx1_0_2 : w8.cell? ⟨w.heap.size, 2, none⟩ = some (.slice D m e) := x1_0.cell 2
      have cx1_0_3 : w8.cell? ⟨w.heap.size, 3, none⟩ = some (.bool x) := x1_0.cell 3
      have lx1_0_0 : w.heap.size < w8.heap.size := by have := x1_0.lt; omega
      have lx1_0_1 : w.heap.size < w8.heap.size + 1 := by have := x1_0.lt; omega
      have lx1_0_2 : w.heap.size < w8.heap.size + 2 := by have := x1_0.lt; omega
      have lx1_0_3 : w.heap.size < w8.heap.size + 3 := by have := x1_0.lt; omega
      have cx1_1_0 : w8.cell? ⟨w.heap.size + 1, 0, none⟩ = some (.bool b') := x1_1.cell 0
      have cx1_1_1 : w8.cell? ⟨w.heap.size + 1, 1, none⟩ = some (.slice A' n' c') := x1_1.cell 1
      have cx1_1_2 : w8.cell? ⟨w.heap.size + 1, 2, none⟩ = some (.slice D' m' e') := x1_1.cell 2
      have cx1_1_3 : w8.cell? ⟨w.heap.size + 1, 3, none⟩ = some (.bool x') := x1_1.cell 3
      have lx1_1_0 : w.heap.size + 1 < w8.heap.size := by have := x1_1.lt; omega
      have lx1_1_1 : w.heap.size < w8.heap.size := by have := x1_1.lt; omega
      have lx1_1_2 : w.heap.size < w8.heap.size + 1 := by have := x1_1.lt; omega
      have lx1_1_3 : w.heap.size < w8.heap.size + 2 := by have := x1_1.lt; omega
      go_wp2_with fail
      (with_reducible refine (g_same_e _ b A n c D m e x (⟨ra.q, x⟩) (6) ?_ b' A' n' c' D' m' e' x' (⟨rb.q, x'⟩) (6) ?_ (u == 0) ?_ ?_ ?_ ?_ ?_).mono ?_); (exact (hTa.belw ((Below.refl _ _).alloc (Nat.le_refl _) _))); (exact (hTb.belw ((Below.refl _ _).alloc (Nat.le_refl _) _))); (exact by rw [beq_iff_eq, ← HU.out]; exact tcmp_zero HOK.out.1 HOK.out.2.1); (first | omega | decide | assumption); (first | omega | decide | assumption); (first | omega | decide | assumption); (first | omega | decide | assumption); rintro e w9 ⟨rfl, hb9⟩
      clear cx1_0_0 cx1_0_1 cx1_0_2 cx1_0_3 lx1_0_0 lx1_0_1 lx1_0_2 lx1_0_3 cx1_1_0 cx1_1_1 cx1_1_2 cx1_1_3 lx1_1_0 lx1_1_1 lx1_1_2 lx1_1_3
      have q9 : Below w8.heap.size w8 w9 := ((Below.refl _ _).alloc (Nat.le_refl _) _).trans (hb9.mono (by simp))
      replace hTa := hTa.belw q9
      replace hTb := hTb.belw q9
      replace hTc := hTc.belw q9
      replace h8 := h8.belw q9
      replace x1_0 : Blk w9 (w.heap.size) 26 #[.bool b, .slice A n c, .slice D m e, .bool x] := x1_0.below q9 x1_0.lt
      replace x1_1 : Blk w9 (w.heap.size + 1) 26 #[.bool b', .slice A' n' c', .slice D' m' e', .bool x'] := x1_1.below q9 x1_1.lt
      replace x1_2 : Blk w9 (w.heap.size + 1 + 1) 26 #[.bool b2, .slice A2 n2 c2, .slice D2 m2 e2, .bool x2] := x1_2.below q9 x1_2.lt
      replace x2_0 : Blk w9 (w1.heap.size) 24 #[.bool b, .slice A n c, .slice D m e, .bool b', .slice A' n' c', .slice D' m' e', .bool b2, .slice A2 n2 c2, .slice D2 m2 e2] := x2_0.below q9 x2_0.lt
      replace x3_0 : Blk w9 (w2.heap.size) 26 #[.bool b, .slice A n c, .slice D m e, .bool x, .bool b', .slice A' n' c', .slice D' m' e', .bool x', .bool b2, .slice A2 n2 c2, .slice D2 m2 e2, .bool x2] := x3_0.below q9 x3_0.lt
      have x9_0 : Blk w9 (w8.heap.size) 26 #[.bool b8, .slice A8 n8 c8, .slice A'8 n'8 c'8, .bool x8] := (blkAt _ _ _ (by simp)).below hb9 (by simp)
      have bw9 : Below w.heap.size w w9 := bw8.trans (q9.mono bw8.size)
      have lw9 : w8.heap.size + 1 ≤ w9.heap.size := by have := hb9.size; simp at this; omega
      clear hb9 q9 bw8
      go_upto_region 10 with fail
      go_cut [120] (fun sv wx => sv = .bool false ∧ w9 = wx)
      case first =>
        by_cases h1 : u < 0
        · by_cases h2 : v < 0
          · have h3 : ¬ 0 ≤ z := (by have := tcmp_trans (by rw [HU.out]; exact h1) (by rw [HV.out]; exact h2); rw [HZ.out] at this; omega)
            go_wp2_with fail
            go_meet
            exact ⟨rfl, rfl⟩
          · go_wp2_with fail
            go_meet
            exact ⟨rfl, rfl⟩
        · go_wp2_with fail
          go_meet
          exact ⟨rfl, rfl⟩
      case rest =>
        obtain ⟨rfl, rfl⟩ := hcut
        have cx1_0_0 : w9.cell? ⟨w.heap.size, 0, none⟩ = some (.bool b) := x1_0.cell 0
        have cx1_0_1 : w9.cell? ⟨w.heap.size, 1, none⟩ = some (.slice A n c) := x1_0.cell 1
        have cx1_0_2 : w9.cell? ⟨w.heap.size, 2, none⟩ = some (.slice D m e) := x1_0.cell 2
        have cx1_0_3 : w9.cell? ⟨w.heap.size, 3, none⟩ = some (.bool x) := x1_0.cell 3
        have lx1_0_0 : w.heap.size < w9.heap.size := by have := x1_0.lt; omega
        have lx1_0_1 : w.heap.size < w9.heap.size + 1 := by have := x1_0.lt; omega
        have lx1_0_2 : w.heap.size < w9.heap.size + 2 := by have := x1_0.lt; omega
        have lx1_0_3 : w.heap.size < w9.heap.size + 3 := by have := x1_0.lt; omega
        have cx1_1_0 : w9.cell? ⟨w.heap.size + 1, 0, none⟩ = some (.bool b') := x1_1.cell 0
        have cx1_1_1 : w9.cell? ⟨w.heap.size + 1, 1, none⟩ = some (.slice A' n' c') := x1_1.cell 1
        have cx1_1_2 : w9.cell? ⟨w.heap.size + 1, 2, none⟩ = some (.slice D' m' e') := x1_1.cell 2
        have cx1_1_3 : w9.cell? ⟨w.heap.size + 1, 3, none⟩ = some (.bool x') := x1_1.cell 3
        have lx1_1_0 : w.heap.size + 1 < w9.heap.size := by have := x1_1.lt; omega
        have lx1_1_1 : w.heap.size < w9.heap.size := by have := x1_1.lt; omega
        have lx1_1_2 : w.heap.size < w9.heap.size + 1 := by have := x1_1.lt; omega
        have lx1_1_3 : w.heap.size < w9.heap.size + 2 := by have := x1_1.lt; omega
        have cx9_0_0 : w9.cell? ⟨w8.heap.size, 0, none⟩ = some (.bool b8) := x9_0.cell 0
        have cx9_0_1 : w9.cell? ⟨w8.heap.size, 1, none⟩ = some (.slice A8 n8 c8) := x9_0.cell 1
        have cx9_0_2 : w9.cell? ⟨w8.heap.size, 2, none⟩ = some (.slice A'8 n'8 c'8) := x9_0.cell 2
        have cx9_0_3 : w9.cell? ⟨w8.heap.size, 3, none⟩ = some (.bool x8) := x9_0.cell 3
        have lx9_0_0 : w8.heap.size < w9.heap.size := by have := x9_0.lt; omega
        have lx9_0_1 : w8.heap.size < w9.heap.size + 1 := by have := x9_0.lt; omega
        have lx9_0_2 : w8.heap.size < w9.heap.size + 2 := by have := x9_0.lt; omega
        have lx9_0_3 : w8.heap.size < w9.heap.size + 3 := by have := x9_0.lt; omega
        go_wp2_with fail
        have HB := Lib.hid (tbetween_inside HOK.out.1 HOK.out.2.1)
        obtain ⟨a', ha'⟩ : ∃ a', tcmp ⟨ra.q, x⟩ (tbetween (⟨ra.q, x⟩) (⟨rb.q, x'⟩)) = a' := ⟨_, rfl⟩
        obtain ⟨d', hd'⟩ : ∃ d', tcmp ⟨rb.q, x'⟩ (tbetween (⟨ra.q, x⟩) (⟨rb.q, x'⟩)) = d' := ⟨_, rfl⟩
        have HA' := Lib.hid ha'
        have HD' := Lib.hid hd'
        have ea : ((a' : Int) == 0) = false := by rw [← ha']; simp; exact HB.out.2.1
        have HDN := Lib.hid (show u ≠ 0 → ((d' : Int) == 0) = false from fun h => by rw [← hd']; simp; exact HB.out.2.2 (by rw [HU.out]; exact h))
        clear ha' hd'
        (with_reducible refine (t_Inside_v _ b A n c D m e x (⟨ra.q, x⟩) (6) ?_ b' A' n' c' D' m' e' x' (⟨rb.q, x'⟩) (6) ?_ b8 A8 n8 c8 A'8 n'8 c'8 x8 (tbetween (⟨ra.q, x⟩) (⟨rb.q, x'⟩)) (6 * (6) + 4 * (6) + 20) ?_ true ?_ ?_ ?_ ?_ ?_ ?_ ?_).mono ?_); (exact hTa); (exact hTb); (exact h8.tk); (exact HB.out.1); (first | omega | decide | assumption); (first | omega | decide | assumption); (first | omega | decide | assumption); (first | omega | decide | assumption); (first | omega | decide | assumption); (first | omega | decide | assumption); rintro e w10 ⟨rfl, hb10⟩
        clear cx1_0_0 cx1_0_1 cx1_0_2 cx1_0_3 lx1_0_0 lx1_0_1 lx1_0_2 lx1_0_3 cx1_1_0 cx1_1_1 cx1_1_2 cx1_1_3 lx1_1_0 lx1_1_1 lx1_1_2 lx1_1_3 cx9_0_0 cx9_0_1 cx9_0_2 cx9_0_3 lx9_0_0 lx9_0_1 lx9_0_2 lx9_0_3
        have q10 : Below w9.heap.size w9 w10 := hb10
        replace hTa := hTa.belw q10
        replace hTb := hTb.belw q10
        replace hTc := hTc.belw q10
        replace h8 := h8.belw q10
        replace x1_0 : Blk w10 (w.heap.size) 26 #[.bool b, .slice A n c, .slice D m e, .bool x] := x1_0.below q10 x1_0.lt
        replace x1_1 : Blk w10 (w.heap.size + 1) 26 #[.bool b', .slice A' n' c', .slice D' m' e', .bool x'] := x1_1.below q10 x1_1.lt
        replace x1_2 : Blk w10 (w.heap.size + 1 + 1) 26 #[.bool b2, .slice A2 n2 c2, .slice D2 m2 e2, .bool x2] := x1_2.below q10 x1_2.lt
        replace x2_0 : Blk w10 (w1.heap.size) 24 #[.bool b, .slice A n c, .slice D m e, .bool b', .slice A' n' c', .slice D' m' e', .bool b2, .slice A2 n2 c2, .slice D2 m2 e2] := x2_0.below q10 x2_0.lt
        replace x3_0 : Blk w10 (w2.heap.size) 26 #[.bool b, .slice A n c, .slice D m e, .bool x, .bool b', .slice A' n' c', .slice D' m' e', .bool x', .bool b2, .slice A2 n2 c2, .slice D2 m2 e2, .bool x2] := x3_0.below q10 x3_0.lt
        replace x9_0 : Blk w10 (w8.heap.size) 26 #[.bool b8, .slice A8 n8 c8, .slice A'8 n'8 c'8, .bool x8] := x9_0.below q10 x9_0.lt
        have bw10 : Below w.heap.size w w10 := bw9.trans (q10.mono bw9.size)
        have lw10 : w9.heap.size ≤ w10.heap.size := q10.size
        clear hb10 q10 bw9
        have cx1_0_0 : w10.cell? ⟨w.heap.size, 0, none⟩ = some (.bool b) := x1_0.cell 0
        have cx1_0_1 : w10.cell? ⟨w.heap.size, 1, none⟩ = some (.slice A n c) := x1_0.cell 1
        have cx1_0_2 : w10.cell? ⟨w.heap.size, 2, none⟩ = some (.slice D m e) := x1_0.cell 2
        have cx1_0_3 : w10.cell? ⟨w.heap.size, 3, none⟩ = some (.bool x) := x1_0.cell 3
        have lx1_0_0 : w.heap.size < w10.heap.size := by have := x1_0.lt; omega
        have lx1_0_1 : w.heap.size < w10.heap.size + 1 := by have := x1_0.lt; omega
        have lx1_0_2 : w.heap.size < w10.heap.size + 2 := by have := x1_0.lt; omega
        have lx1_0_3 : w.heap.size < w10.heap.size + 3 := by have := x1_0.lt; omega
        have cx9_0_0 : w10.cell? ⟨w8.heap.size, 0, none⟩ = some (.bool b8) := x9_0.cell 0
        have cx9_0_1 : w10.cell? ⟨w8.heap.size, 1, none⟩ = some (.slice A8 n8 c8) := x9_0.cell 1
        have cx9_0_2 : w10.cell? ⟨w8.heap.size, 2, none⟩ = some (.slice A'8 n'8 c'8) := x9_0.cell 2
        have cx9_0_3 : w10.cell? ⟨w8.heap.size, 3, none⟩ = some (.bool x8) := x9_0.cell 3
        have lx9_0_0 : w8.heap.size < w10.heap.size := by have := x9_0.lt; omega
        have lx9_0_1 : w8.heap.size < w10.heap.size + 1 := by have := x9_0.lt; omega
        have lx9_0_2 : w8.heap.size < w10.heap.size + 2 := by have := x9_0.lt; omega
        have lx9_0_3 : w8.heap.size < w10.heap.size + 3 := by have := x9_0.lt; omega
        go_wp2_with fail
        (with_reducible refine (t_Cmp_v _ b A n c D m e x (⟨ra.q, x⟩) (6) ?_ b8 A8 n8 c8 A'8 n'8 c'8 x8 (tbetween (⟨ra.q, x⟩) (⟨rb.q, x'⟩)) (6 * (6) + 4 * (6) + 20) ?_ a' ?_ ?_ ?_ ?_ ?_).mono ?_); (exact hTa); (exact h8.tk); (exact HA'.out); (first | omega | decide | assumption); (first | omega | decide | assumption); (first | omega | decide | assumption); (first | omega | decide | assumption); rintro e w11 ⟨rfl, hb11⟩
        clear cx1_0_0 cx1_0_1 cx1_0_2 cx1_0_3 lx1_0_0 lx1_0_1 lx1_0_2 lx1_0_3 cx9_0_0 cx9_0_1 cx9_0_2 cx9_0_3 lx9_0_0 lx9_0_1 lx9_0_2 lx9_0_3
        have q11 : Below w10.heap.size w10 w11 := hb11
        replace hTa := hTa.belw q11
        replace hTb := hTb.belw q11
        replace hTc := hTc.belw q11
        replace h8 := h8.belw q11
        replace x1_0 : Blk w11 (w.heap.size) 26 #[.bool b, .slice A n c, .slice D m e, .bool x] := x1_0.below q11 x1_0.lt
        replace x1_1 : Blk w11 (w.heap.size + 1) 26 #[.bool b', .slice A' n' c', .slice D' m' e', .bool x'] := x1_1.below q11 x1_1.lt
        replace x1_2 : Blk w11 (w.heap.size + 1 + 1) 26 #[.bool b2, .slice A2 n2 c2, .slice D2 m2 e2, .bool x2] := x1_2.below q11 x1_2.lt
        replace x2_0 : Blk w11 (w1.heap.size) 24 #[.bool b, .slice A n c, .slice D m e, .bool b', .slice A' n' c', .slice D' m' e', .bool b2, .slice A2 n2 c2, .slice D2 m2 e2] := x2_0.below q11 x2_0.lt
        replace x3_0 : Blk w11 (w2.heap.size) 26 #[.bool b, .slice A n c, .slice D m e, .bool x, .bool b', .slice A' n' c', .slice D' m' e', .bool x', .bool b2, .slice A2 n2 c2, .slice D2 m2 e2, .bool x2] := x3_0.below q11 x3_0.lt
        replace x9_0 : Blk w11 (w8.heap.size) 26 #[.bool b8, .slice A8 n8 c8, .slice A'8 n'8 c'8, .bool x8] := x9_0.below q11 x9_0.lt
        have bw11 : Below w.heap.size w w11 := bw10.trans (q11.mono bw10.size)
        have lw11 : w10.heap.size ≤ w11.heap.size := q11.size
        clear hb11 q11 bw10
        have cx1_1_0 : w11.cell? ⟨w.heap.size + 1, 0, none⟩ = some (.bool b') := x1_1.cell 0
        have cx1_1_1 : w11.cell? ⟨w.heap.size + 1, 1, none⟩ = some (.slice A' n' c') := x1_1.cell 1
        have cx1_1_2 : w11.cell? ⟨w.heap.size + 1, 2, none⟩ = some (.slice D' m' e') := x1_1.cell 2
        have cx1_1_3 : w11.cell? ⟨w.heap.size + 1, 3, none⟩ = some (.bool x') := x1_1.cell 3
        have lx1_1_0 : w.heap.size + 1 < w11.heap.size := by have := x1_1.lt; omega
        have lx1_1_1 : w.heap.size < w11.heap.size := by have := x1_1.lt; omega
        have lx1_1_2 : w.heap.size < w11.heap.size + 1 := by have := x1_1.lt; omega
        have lx1_1_3 : w.heap.size < w11.heap.size + 2 := by have := x1_1.lt; omega
        have cx9_0_0 : w11.cell? ⟨w8.heap.size, 0, none⟩ = some (.bool b8) := x9_0.cell 0
        have cx9_0_1 : w11.cell? ⟨w8.heap.size, 1, none⟩ = some (.slice A8 n8 c8) := x9_0.cell 1
        have cx9_0_2 : w11.cell? ⟨w8.heap.size, 2, none⟩ = some (.slice A'8 n'8 c'8) := x9_0.cell 2
        have cx9_0_3 : w11.cell? ⟨w8.heap.size, 3, none⟩ = some (.bool x8) := x9_0.cell 3
        have lx9_0_0 : w8.heap.size < w11.heap.size := by have := x9_0.lt; omega
        have lx9_0_1 : w8.heap.size < w11.heap.size + 1 := by have := x9_0.lt; omega
        have lx9_0_2 : w8.heap.size < w11.heap.size + 2 := by have := x9_0.lt; omega
        have lx9_0_3 : w8.heap.size < w11.heap.size + 3 := by have := x9_0.lt; omega
        go_wp2_with fail
        (with_reducible refine (t_Cmp_v _ b' A' n' c' D' m' e' x' (⟨rb.q, x'⟩) (6) ?_ b8 A8 n8 c8 A'8 n'8 c'8 x8 (tbetween (⟨ra.q, x⟩) (⟨rb.q, x'⟩)) (6 * (6) + 4 * (6) + 20) ?_ d' ?_ ?_ ?_ ?_ ?_).mono ?_); (exact hTb); (exact h8.tk); (exact HD'.out); (first | omega | decide | assumption); (first | omega | decide | assumption); (first | omega | decide | assumption); (first | omega | decide | assumption); rintro e w12 ⟨rfl, hb12⟩
        clear cx1_1_0 cx1_1_1 cx1_1_2 cx1_1_3 lx1_1_0 lx1_1_1 lx1_1_2 lx1_1_3 cx9_0_0 cx9_0_1 cx9_0_2 cx9_0_3 lx9_0_0 lx9_0_1 lx9_0_2 lx9_0_3
        have q12 : Below w11.heap.size w11 w12 := hb12
        replace hTa := hTa.belw q12
        replace hTb := hTb.belw q12
        replace hTc := hTc.belw q12
        replace h8 := h8.belw q12
        replace x1_0 : Blk w12 (w.heap.size) 26 #[.bool b, .slice A n c, .slice D m e, .bool x] := x1_0.below q12 x1_0.lt
        replace x1_1 : Blk w12 (w.heap.size + 1) 26 #[.bool b', .slice A' n' c', .slice D' m' e', .bool x'] := x1_1.below q12 x1_1.lt
        replace x1_2 : Blk w12 (w.heap.size + 1 + 1) 26 #[.bool b2, .slice A2 n2 c2, .slice D2 m2 e2, .bool x2] := x1_2.below q12 x1_2.lt
        replace x2_0 : Blk w12 (w1.heap.size) 24 #[.bool b, .slice A n c, .slice D m e, .bool b', .slice A' n' c', .slice D' m' e', .bool b2, .slice A2 n2 c2, .slice D2 m2 e2] := x2_0.below q12 x2_0.lt
        replace x3_0 : Blk w12 (w2.heap.size) 26 #[.bool b, .slice A n c, .slice D m e, .bool x, .bool b', .slice A' n' c', .slice D' m' e', .bool x', .bool b2, .slice A2 n2 c2, .slice D2 m2 e2, .bool x2] := x3_0.below q12 x3_0.lt
        replace x9_0 : Blk w12 (w8.heap.size) 26 #[.bool b8, .slice A8 n8 c8, .slice A'8 n'8 c'8, .bool x8] := x9_0.below q12 x9_0.lt
        have bw12 : Below w.heap.size w w12 := bw11.trans (q12.mono bw11.size)
        have lw12 : w11.heap.size ≤ w12.heap.size := q12.size
        clear hb12 q12 bw11
        go_upto_region 15 with fail
        go_cut [165] (fun sv wx => sv = .bool false ∧ w12 = wx)
        case first =>
          by_cases h1 : u = 0
          · subst h1
            go_wp2_with fail
            go_meet
            exact ⟨rfl, rfl⟩
          · have ez1 : (u != 0) = true := by simp; exact h1
            have ez2 := HDN.out h1
            go_wp2_with fail
            go_meet
            exact ⟨rfl, rfl⟩
        case rest =>
          obtain ⟨rfl, rfl⟩ := hcut
          have cx1_0_0 : w12.cell? ⟨w.heap.size, 0, none⟩ = some (.bool b) := x1_0.cell 0
          have cx1_0_1 : w12.cell? ⟨w.heap.size, 1, none⟩ = some (.slice A n c) := x1_0.cell 1
          have cx1_0_2 : w12.cell? ⟨w.heap.size, 2, none⟩ = some (.slice D m e) := x1_0.cell 2
          have cx1_0_3 : w12.cell? ⟨w.heap.size, 3, none⟩ = some (.bool x) := x1_0.cell 3
          have lx1_0_0 : w.heap.size < w12.heap.size := by have := x1_0.lt; omega
          have lx1_0_1 : w.heap.size < w12.heap.size + 1 := by have := x1_0.lt; omega
          have lx1_0_2 : w.heap.size < w12.heap.size + 2 := by have := x1_0.lt; omega
          have lx1_0_3 : w.heap.size < w12.heap.size + 3 := by have := x1_0.lt; omega
          have cx1_1_0 : w12.cell? ⟨w.heap.size + 1, 0, none⟩ = some (.bool b') := x1_1.cell 0
          have cx1_1_1 : w12.cell? ⟨w.heap.size + 1, 1, none⟩ = some (.slice A' n' c') := x1_1.cell 1
          have cx1_1_2 : w12.cell? ⟨w.heap.size + 1, 2, none⟩ = some (.slice D' m' e') := x1_1.cell 2
          have cx1_1_3 : w12.cell? ⟨w.heap.size + 1, 3, none⟩ = some (.bool x') := x1_1.cell 3
          have lx1_1_0 : w.heap.size + 1 < w12.heap.size := by have := x1_1.lt; omega
          have lx1_1_1 : w.heap.size < w12.heap.size := by have := x1_1.lt; omega
          have lx1_1_2 : w.heap.size < w12.heap.size + 1 := by have := x1_1.lt; omega
          have lx1_1_3 : w.heap.size < w12.heap.size + 2 := by have := x1_1.lt; omega
          have cx1_2_0 : w12.cell? ⟨w.heap.size + 1 + 1, 0, none⟩ = some (.bool b2) := x1_2.cell 0
          have cx1_2_1 : w12.cell? ⟨w.heap.size + 1 + 1, 1, none⟩ = some (.slice A2 n2 c2) := x1_2.cell 1
          have cx1_2_2 : w12.cell? ⟨w.heap.size + 1 + 1, 2, none⟩ = some (.slice D2 m2 e2) := x1_2.cell 2
          have cx1_2_3 : w12.cell? ⟨w.heap.size + 1 + 1, 3, none⟩ = some (.bool x2) := x1_2.cell 3
          have lx1_2_0 : w.heap.size + 2 < w12.heap.size := by have := x1_2.lt; omega
          have lx1_2_1 : w.heap.size + 1 < w12.heap.size := by have := x1_2.lt; omega
          have lx1_2_2 : w.heap.size < w12.heap.size := by have := x1_2.lt; omega
          have lx1_2_3 : w.heap.size < w12.heap.size + 1 := by have := x1_2.lt; omega
          go_upto_region 17 with fail
          by_cases hd : u = 0 ∨ v = 0 ∨ z = 0
          · have HD := Lib.hid hd
            clear hd
            clear cx1_0_0 cx1_0_1 cx1_0_2 cx1_0_3 lx1_0_0 lx1_0_1 lx1_0_2 lx1_0_3 cx1_1_0 cx1_1_1 cx1_1_2 cx1_1_3 lx1_1_0 lx1_1_1 lx1_1_2 lx1_1_3 cx1_2_0 cx1_2_1 cx1_2_2 cx1_2_3 lx1_2_0 lx1_2_1 lx1_2_2 lx1_2_3
            go_cut [175] (fun sv wx => sv = .bool true ∧ w12 = wx)
            case first =>
              by_cases h1 : u = 0
              · subst h1
                go_wp2_with fail
                go_meet
                exact ⟨rfl, rfl⟩
              · have ez1 : (u == 0) = false := by simp; exact h1
                by_cases h2 : v = 0
                · subst h2
                  go_wp2_with fail
                  go_meet
                  exact ⟨rfl, rfl⟩
                · have ez2 : (v == 0) = false := by simp; exact h2
                  have h3 : z = 0 := by have := HD.out; omega
                  subst h3
                  go_wp2_with fail
                  go_meet
                  exact ⟨rfl, rfl⟩
            case rest =>
              obtain ⟨rfl, rfl⟩ := hcut
              go_wp2_with fail
              go_ret
              exact retB rfl bw12
          · have ez1 : (u == 0) = false := by simp; omega
            have ez2 : (v == 0) = false := by simp; omega
            have ez3 : (z == 0) = false := by simp; omega
            have HN := Lib.hid hd
            clear hd
            obtain ⟨s, hs⟩ : ∃ s, tinside ⟨ra.q, x⟩ ⟨rb.q, x'⟩ ⟨rc.q, x2⟩ = s := ⟨_, rfl⟩
            have HS := Lib.hid hs
            have HS2 := Lib.hid (show tinside ⟨ra.q, x⟩ ⟨rc.q, x2⟩ ⟨rb.q, x'⟩ = (!s) by
              have h1 := tinside_one HOK.out.1 HOK.out.2.1 HOK.out.2.2 (by rw [HU.out]; have := HN.out; omega) (by rw [HV.out]; have := HN.out; omega) (by rw [HZ.out]; have := HN.out; omega)
              rw [hs] at h1
              revert h1
              cases tinside ⟨ra.q, x⟩ ⟨rc.q, x2⟩ ⟨rb.q, x'⟩ <;> cases s <;> simp)
            clear hs
            go_wp2_with fail
            (with_reducible refine (t_Inside_v _ b A n c D m e x (⟨ra.q, x⟩) (6) ?_ b' A' n' c' D' m' e' x' (⟨rb.q, x'⟩) (6) ?_ b2 A2 n2 c2 D2 m2 e2 x2 (⟨rc.q, x2⟩) (6) ?_ s ?_ ?_ ?_ ?_ ?_ ?_ ?_).mono ?_); (exact hTa); (exact hTb); (exact hTc); (exact HS.out); (first | omega | decide | assumption); (first | omega | decide | assumption); (first | omega | decide | assumption); (first | omega | decide | assumption); (first | omega | decide | assumption); (first | omega | decide | assumption); rintro e w13 ⟨rfl, hb13⟩
            clear cx1_0_0 cx1_0_1 cx1_0_2 cx1_0_3 lx1_0_0 lx1_0_1 lx1_0_2 lx1_0_3 cx1_1_0 cx1_1_1 cx1_1_2 cx1_1_3 lx1_1_0 lx1_1_1 lx1_1_2 lx1_1_3 cx1_2_0 cx1_2_1 cx1_2_2 cx1_2_3 lx1_2_0 lx1_2_1 lx1_2_2 lx1_2_3
            have q13 : Below w12.heap.size w12 w13 := hb13
            replace hTa := hTa.belw q13
            replace hTb := hTb.belw q13
            replace hTc := hTc.belw q13
            replace h8 := h8.belw q13
            replace x1_0 : Blk w13 (w.heap.size) 26 #[.bool b, .slice A n c, .slice D m e, .bool x] := x1_0.below q13 x1_0.lt
            replace x1_1 : Blk w13 (w.heap.size + 1) 26 #[.bool b', .slice A' n' c', .slice D' m' e', .bool x'] := x1_1.below q13 x1_1.lt
            replace x1_2 : Blk w13 (w.heap.size + 1 + 1) 26 #[.bool b2, .slice A2 n2 c2, .slice D2 m2 e2, .bool x2] := x1_2.below q13 x1_2.lt
            replace x2_0 : Blk w13 (w1.heap.size) 24 #[.bool b, .slice A n c, .slice D m e, .bool b', .slice A' n' c', .slice D' m' e', .bool b2, .slice A2 n2 c2, .slice D2 m2 e2] := x2_0.below q13 x2_0.lt
            replace x3_0 : Blk w13 (w2.heap.size) 26 #[.bool b, .slice A n c, .slice D m e, .bool x, .bool b', .slice A' n' c', .slice D' m' e', .bool x', .bool b2, .slice A2 n2 c2, .slice D2 m2 e2, .bool x2] := x3_0.below q13 x3_0.lt
            replace x9_0 : Blk w13 (w8.heap.size) 26 #[.bool b8, .slice A8 n8 c8, .slice A'8 n'8 c'8, .bool x8] := x9_0.below q13 x9_0.lt
            have bw13 : Below w.heap.size w w13 := bw12.trans (q13.mono bw12.size)
            have lw13 : w12.heap.size ≤ w13.heap.size := q13.size
            clear hb13 q13 bw12
            have cx1_0_0 : w13.cell? ⟨w.heap.size, 0, none⟩ = some (.bool b) := x1_0.cell 0
            have cx1_0_1 : w13.cell? ⟨w.heap.size, 1, none⟩ = some (.slice A n c) := x1_0.cell 1
            have cx1_0_2 : w13.cell? ⟨w.heap.size, 2, none⟩ = some (.slice D m e) := x1_0.cell 2
            have cx1_0_3 : w13.cell? ⟨w.heap.size, 3, none⟩ = some (.bool x) := x1_0.cell 3
            have lx1_0_0 : w.heap.size < w13.heap.size := by have := x1_0.lt; omega
            have lx1_0_1 : w.heap.size < w13.heap.size + 1 := by have := x1_0.lt; omega
            have lx1_0_2 : w.heap.size < w13.heap.size + 2 := by have := x1_0.lt; omega
            have lx1_0_3 : w.heap.size < w13.heap.size + 3 := by have := x1_0.lt; omega
            have cx1_1_0 : w13.cell? ⟨w.heap.size + 1, 0, none⟩ = some (.bool b') := x1_1.cell 0
            have cx1_1_1 : w13.cell? ⟨w.heap.size + 1, 1, none⟩ = some (.slice A' n' c') := x1_1.cell 1
            have cx1_1_2 : w13.cell? ⟨w.heap.size + 1, 2, none⟩ = some (.slice D' m' e') := x1_1.cell 2
            have cx1_1_3 : w13.cell? ⟨w.heap.size + 1, 3, none⟩ = some (.bool x') := x1_1.cell 3
            have lx1_1_0 : w.heap.size + 1 < w13.heap.size := by have := x1_1.lt; omega
            have lx1_1_1 : w.heap.size < w13.heap.size := by have := x1_1.lt; omega
            have lx1_1_2 : w.heap.size < w13.heap.size + 1 := by have := x1_1.lt; omega
            have lx1_1_3 : w.heap.size < w13.heap.size + 2 := by have := x1_1.lt; omega
            have cx1_2_0 : w13.cell? ⟨w.heap.size + 1 + 1, 0, none⟩ = some (.bool b2) := x1_2.cell 0
            have cx1_2_1 : w13.cell? ⟨w.heap.size + 1 + 1, 1, none⟩ = some (.slice A2 n2 c2) := x1_2.cell 1
            have cx1_2_2 : w13.cell? ⟨w.heap.size + 1 + 1, 2, none⟩ = some (.slice D2 m2 e2) := x1_2.cell 2
            have cx1_2_3 : w13.cell? ⟨w.heap.size + 1 + 1, 3, none⟩ = some (.bool x2) := x1_2.cell 3
            have lx1_2_0 : w.heap.size + 2 < w13.heap.size := by have := x1_2.lt; omega
            have lx1_2_1 : w.heap.size + 1 < w13.heap.size := by have := x1_2.lt; omega
            have lx1_2_2 : w.heap.size < w13.heap.size := by have := x1_2.lt; omega
            have lx1_2_3 : w.heap.size < w13.heap.size + 1 := by have := x1_2.lt; omega
            go_wp2_with fail
            (with_reducible refine (t_Inside_v _ b A n c D m e x (⟨ra.q, x⟩) (6) ?_ b2 A2 n2 c2 D2 m2 e2 x2 (⟨rc.q, x2⟩) (6) ?_ b' A' n' c' D' m' e' x' (⟨rb.q, x'⟩) (6) ?_ (!s) ?_ ?_ ?_ ?_ ?_ ?_ ?_).mono ?_); (exact hTa); (exact hTc); (exact hTb); (exact HS2.out); (first | omega | decide | assumption); (first | omega | decide | assumption); (first | omega | decide | assumption); (first | omega | decide | assumption); (first | omega | decide | assumption); (first | omega | decide | assumption); rintro e w14 ⟨rfl, hb14⟩
            clear cx1_0_0 cx1_0_1 cx1_0_2 cx1_0_3 lx1_0_0 lx1_0_1 lx1_0_2 lx1_0_3 cx1_1_0 cx1_1_1 cx1_1_2 cx1_1_3 lx1_1_0 lx1_1_1 lx1_1_2 lx1_1_3 cx1_2_0 cx1_2_1 cx1_2_2 cx1_2_3 lx1_2_0 lx1_2_1 lx1_2_2 lx1_2_3
            have q14 : Below w13.heap.size w13 w14 := hb14
            replace hTa := hTa.belw q14
            replace hTb := hTb.belw q14
            replace hTc := hTc.belw q14
            replace h8 := h8.belw q14
            replace x1_0 : Blk w14 (w.heap.size) 26 #[.bool b, .slice A n c, .slice D m e, .bool x] := x1_0.below q14 x1_0.lt
            replace x1_1 : Blk w14 (w.heap.size + 1) 26 #[.bool b', .slice A' n' c', .slice D' m' e', .bool x'] := x1_1.below q14 x1_1.lt
            replace x1_2 : Blk w14 (w.heap.size + 1 + 1) 26 #[.bool b2, .slice A2 n2 c2, .slice D2 m2 e2, .bool x2] := x1_2.below q14 x1_2.lt
            replace x2_0 : Blk w14 (w1.heap.size) 24 #[.bool b, .slice A n c, .slice D m e, .bool b', .slice A' n' c', .slice D' m' e', .bool b2, .slice A2 n2 c2, .slice D2 m2 e2] := x2_0.below q14 x2_0.lt
            replace x3_0 : Blk w14 (w2.heap.size) 26 #[.bool b, .slice A n c, .slice D m e, .bool x, .bool b', .slice A' n' c', .slice D' m' e', .bool x', .bool b2, .slice A2 n2 c2, .slice D2 m2 e2, .bool x2] := x3_0.below q14 x3_0.lt
            replace x9_0 : Blk w14 (w8.heap.size) 26 #[.bool b8, .slice A8 n8 c8, .slice A'8 n'8 c'8, .bool x8] := x9_0.below q14 x9_0.lt
            have bw14 : Below w.heap.size w w14 := bw13.trans (q14.mono bw13.size)
            have lw14 : w13.heap.size ≤ w14.heap.size := q14.size
            clear hb14 q14 bw13
            go_wp2_with fail
            go_ret
            exact retB rfl bw14
end Go.Proofs.Ytmneloabphplmaa

namespace Go.Proofs.Ytmneloabphplmaa
open Go Go.RowKit Bn Go.ChangeShapes Go.WideShapes
theorem own_knob : ownKnob Try.prog.godebug = none := by kernel_rfl
theorem laid_out : laidOutB Try.prog = true := by kernel_rfl
set_option maxRecDepth 100000 in
theorem order_lifted (os : Os) (started : os.Started) (H : Type) (enc : TypeId × Value → H) :
    ReturnsInHanded {} Try.checked os 5 .any (Rows.turnOrderSpec.pre6 enc Try.prog Try.f5 Rows.turnOrderRow.domain false) (Rows.turnOrderSpec.post enc Try.prog Try.f5 false true false false) := by
  refine returnsInHanded_of_change (C := Try.checked) own_knob started (by kernel_rfl) Try.func5
    (ChangeSpec.witness6 (enc := enc) (C := Try.checked) false ⟨#[], #[.agg #[.bool false, .slice none 0 0, .slice none 0 0, .bool false], .agg #[.bool false, .slice none 0 0, .slice none 0 0, .bool false], .agg #[.bool false, .slice none 0 0, .slice none 0 0, .bool false]], []⟩ 8 (by kernel_rfl) (by kernel_rfl) (by kernel_rfl) (by kernel_rfl)) ?_
  intro W base args ds gs before hval0 hW _ _
  have hval : ∀ (j : Nat) t v, Try.f5.params[j]? = some t → args[j]? = some v → Value.okWide Try.prog W .any base t v := hval0
  have hW' := hW
  obtain ⟨p, q, hA0, hV, rfl, hfz, hnd⟩ := hW
  have hA : DataW.TrodAll enc Try.prog W 0 (fun _ => true) true Try.f5.params.toList args.toList ds p := hA0
  rw [Try.params5] at hA hval
  obtain ⟨v0, v1, v2, d0, d1, d2, p0, p1, p2, rfl, rfl, rfl, h0, h1, h2⟩ := trodAll_three hA
  obtain ⟨rfl, rfl⟩ := trodVars_none hV
  obtain ⟨b, A, n, c, D, m, e, ra, k, x, rfl, Ha⟩ := turn_open (hval 0 _ v0 rfl rfl) h0
  obtain ⟨b', A', n', c', D', m', e', rb, k', x', rfl, Hb⟩ := turn_open (hval 1 _ v1 rfl rfl) h1
  obtain ⟨b2, A2, n2, c2, D2, m2, e2, rc, k2, x2, rfl, Hc⟩ := turn_open (hval 2 _ v2 rfl rfl) h2
  refine (l_TurnOrder W b A n c D m e ra k Ha b' A' n' c' D' m' e' rb k' Hb b2 A2 n2 c2 D2 m2 e2 rc k2 Hc x x' x2).mono fun e W' ⟨he, hb⟩ => ?_
  subst he
  exact ⟨_, rfl, law_post laid_out Try.underlying4 hW' rfl rfl (by kernel_rfl) rfl rfl rfl hb⟩
theorem order_holds : Rows.TurnOrderSaid :=
  OpenClaim.holds_of_wide 5 Try.f5 rfl rfl rfl rfl rfl rfl rfl ⟨rfl, rfl, rfl, rfl, rfl⟩ rfl rfl rfl rfl rfl (by kernel_rfl) Try.func5 (by kernel_rfl)
    (of_decide_eq_true (by kernel_rfl)) (by unfold Func.isWrapper; rw [if_neg (of_decide_eq_false (by kernel_rfl))]; exact ⟨rfl, rfl⟩)
    (fun os started H enc _ => order_lifted os started H enc)
end Go.Proofs.Ytmneloabphplmaa
