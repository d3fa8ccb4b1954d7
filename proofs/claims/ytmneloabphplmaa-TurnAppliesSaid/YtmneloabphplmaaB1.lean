/- TurnApplies: a point turned by a sum is turned by one and then by the other, and keeps its squared length; for every input the law returns true. No condition. -/
import Derived.Deep.RegionHeld3
import Derived.Deep.DrawnRows
import Derived.Test.YtmneloabphplmaaA5
set_option linter.unusedVariables false
/- Walks: the laws' own small functions: good. -/
namespace Go.Proofs.Ytmneloabphplmaa
open Go Go.RowKit Bn
attribute [local go_sem ↓] Go.wp_at_zero Go.wp_at_succ
def RetGd (w : World) (N : Nat) (rs : Nat → RD) (xs : Nat → Bool) (e : Ending) (w' : World) : Prop := ∃ r : Bool, e = .returned (.bool r) ∧ (r = true → ∀ i, i < N → accT (rs i) (xs i) = true) ∧ Below w.heap.size w w'
set_option maxRecDepth 100000 in
set_option maxHeartbeats 2000000 in
theorem l_good (w : World) (g N k : Nat) (rs : Nat → RD) (xs : Nat → Bool) (h : Gs w g N k rs xs) (hN : N ≤ 1000) (h0 : 0 < k) (hk : k ≤ 30000000) :
    Calls Try.prog 8 #[.slice (some ⟨g, 0, none⟩) N N] w (RetGd w N rs xs) := by
  go_enter Try.func8, Try.ntmps8
  go_wp2_with fail
  go_loopw [7] (fun iv wr => ∃ i : Nat, i ≤ N ∧ iv = .int .i64 (i : Nat) ∧ (∀ j, j < i → accT (rs j) (xs j) = true) ∧ Below w.heap.size w wr) (fun iv _ => N - (intOf iv).toNat)
  case atStart => exact ⟨0, Nat.zero_le _, rfl, fun j hj => absurd hj (by omega), brefl w⟩
  case round =>
    obtain ⟨i, hi, rfl, hall, hb⟩ := hrel
    have HA := Lib.hid hall
    have HB := Lib.hid hb
    by_cases hlt : i < N
    · have hw := h.belw hb
      obtain ⟨b, A, m, c, D, m', e, c0, c1, c2, c3, h5⟩ := hw.2 i hlt
      have hgl := hw.1
      obtain ⟨x, hx⟩ : ∃ x, xs i = x := ⟨_, rfl⟩
      rw [hx] at c3
      have HX := Lib.hid hx
      have H := Lib.hid h
      clear h hw hall hb hx
      go_wp2_with fail
      (with_reducible refine (g_check _ b A m c D m' e (rs i) k ?_ ?_ ?_ x).mono ?_); (exact h5.belw ((Below.refl _ _).alloc (Nat.le_refl _) _)); (exact h0); (exact hk); rintro e w1 ⟨rfl, hb1⟩
      have HB1 := Lib.hid (HB.out.trans ((((Below.refl _ _).alloc (Nat.le_refl _) _).trans (hb1.mono (by simp))).mono HB.out.size))
      clear hb1
      by_cases hacc : accT (rs i) x = true
      · rw [if_pos hacc]
        have HC := Lib.hid hacc
        clear hacc
        go_wp2_with fail
        go_roundw
        case rel => exact ⟨i + 1, by omega, by go_num, fun j hj => by
          by_cases hji : j = i
          · subst hji; rw [HX.out]; exact HC.out
          · exact HA.out j (by omega), HB1.out⟩
        case measure => simp [intOf]; omega
      · rw [if_neg hacc]
        clear hacc
        go_wp2_with fail
        go_ret
        exact ⟨false, rfl, (fun h => nomatch h), HB1.out⟩
    · have hiN : i = N := by omega
      subst hiN
      clear h hall hb
      go_wp2_with fail
      go_ret
      exact ⟨true, rfl, fun _ => HA.out, HB.out⟩
end Go.Proofs.Ytmneloabphplmaa

/- Walks: TurnApplies. -/
namespace Go.Proofs.Ytmneloabphplmaa
open Go Go.RowKit Bn
attribute [local go_sem ↓] Go.wp_at_zero Go.wp_at_succ
set_option maxRecDepth 100000 in
set_option maxHeartbeats 8000000 in
/-- linkworklaw12.TurnApplies -/
theorem l_TurnApplies (w : World) (b : Bool) (A : Option Addr) (n c : Nat) (D : Option Addr) (m e : Nat) (ra : RD) (k : Nat) (Hra : QD w b A n c D m e ra k) (b' : Bool) (A' : Option Addr) (n' c' : Nat) (D' : Option Addr) (m' e' : Nat) (rb : RD) (k' : Nat) (Hrb : QD w b' A' n' c' D' m' e' rb k') (b'' : Bool) (A'' : Option Addr) (n'' c'' : Nat) (D'' : Option Addr) (m'' e'' : Nat) (rx : RD) (k'' : Nat) (Hrx : QD w b'' A'' n'' c'' D'' m'' e'' rx k'') (b3 : Bool) (A3 : Option Addr) (n3 c3 : Nat) (D3 : Option Addr) (m3 e3 : Nat) (ry : RD) (k3 : Nat) (Hry : QD w b3 A3 n3 c3 D3 m3 e3 ry k3) (x x' : Bool) :
    Calls Try.prog 3 #[.agg #[.bool b, .slice A n c, .slice D m e, .bool x], .agg #[.bool b', .slice A' n' c', .slice D' m' e', .bool x'], .agg #[.bool b'', .slice A'' n'' c'', .slice D'' m'' e'', .bool b3, .slice A3 n3 c3, .slice D3 m3 e3]] w (RetV w (.bool true)) := by
  go_enter Try.func3, Try.ntmps3
  go_wp2_with fail
  (with_reducible refine (l_awake _).mono ?_); rintro e w1 ⟨rfl, hb1⟩
  have q1 : Below w.heap.size w w1 := ((((Below.refl _ _).alloc (Nat.le_refl _) _).alloc (by simp) _).alloc (by simp <;> omega) _).trans (hb1.mono (by simp <;> omega))
  replace Hra := Hra.belw q1
  replace Hrb := Hrb.belw q1
  replace Hrx := Hrx.belw q1
  replace Hry := Hry.belw q1
  have x1_0 : Blk w1 (w.heap.size) 26 #[.bool b, .slice A n c, .slice D m e, .bool x] := (((blkAt _ _ _ (by simp)).alloc _).alloc _).below hb1 (by simp <;> omega)
  have x1_1 : Blk w1 (w.heap.size + 1) 26 #[.bool b', .slice A' n' c', .slice D' m' e', .bool x'] := ((blkAt _ _ _ (by simp)).alloc _).below hb1 (by simp <;> omega)
  have x1_2 : Blk w1 (w.heap.size + 1 + 1) 28 #[.bool b'', .slice A'' n'' c'', .slice D'' m'' e'', .bool b3, .slice A3 n3 c3, .slice D3 m3 e3] := (blkAt _ _ _ (by simp)).below hb1 (by simp)
  have bw1 : Below w.heap.size w w1 := (brefl w).trans (q1.mono (brefl w).size)
  have lw1 : w.heap.size + 3 ≤ w1.heap.size := by have := hb1.size; simp at this; omega
  clear hb1 q1
  have cx1_0_0 : w1.cell? ⟨w.heap.size, 0, none⟩ = some (.bool b) := x1_0.cell 0
  have cx1_0_1 : w1.cell? ⟨w.heap.size, 1, none⟩ = some (.slice A n c) := x1_0.cell 1
  have cx1_0_2 : w1.cell? ⟨w.heap.size, 2, none⟩ = some (.slice D m e) := x1_0.cell 2
  have cx1_0_3 : w1.cell? ⟨w.heap.size, 3, none⟩ = some (.bool x) := x1_0.cell 3
  have lx1_0_0 : w.heap.size < w1.heap.size := by have := x1_0.lt; omega
  have lx1_0_1 : w.heap.size < w1.heap.size + 1 := by have := x1_0.lt; omega
  have lx1_0_2 : w.heap.size < w1.heap.size + 2 := by have := x1_0.lt; omega
  have lx1_0_3 : w.heap.size < w1.heap.size + 3 := by have := x1_0.lt; omega
  have cx1_1_0 : w1.cell? ⟨w.heap.size + 1, 0, none⟩ = some (.bool b') := x1_1.cell 0
  have cx1_1_1 : w1.cell? ⟨w.heap.size + 1, 1, none⟩ = some (.slice A' n' c') := x1_1.cell 1
  have cx1_1_2 : w1.cell? ⟨w.heap.size + 1, 2, none⟩ = some (.slice D' m' e') := x1_1.cell 2
  have cx1_1_3 : w1.cell? ⟨w.heap.size + 1, 3, none⟩ = some (.bool x') := x1_1.cell 3
  have lx1_1_0 : w.heap.size + 1 < w1.heap.size := by have := x1_1.lt; omega
  have lx1_1_1 : w.heap.size < w1.heap.size := by have := x1_1.lt; omega
  have lx1_1_2 : w.heap.size < w1.heap.size + 1 := by have := x1_1.lt; omega
  have lx1_1_3 : w.heap.size < w1.heap.size + 2 := by have := x1_1.lt; omega
  have cx1_2_0 : w1.cell? ⟨w.heap.size + 1 + 1, 0, none⟩ = some (.bool b'') := x1_2.cell 0
  have cx1_2_1 : w1.cell? ⟨w.heap.size + 1 + 1, 1, none⟩ = some (.slice A'' n'' c'') := x1_2.cell 1
  have cx1_2_2 : w1.cell? ⟨w.heap.size + 1 + 1, 2, none⟩ = some (.slice D'' m'' e'') := x1_2.cell 2
  have cx1_2_3 : w1.cell? ⟨w.heap.size + 1 + 1, 3, none⟩ = some (.bool b3) := x1_2.cell 3
  have cx1_2_4 : w1.cell? ⟨w.heap.size + 1 + 1, 4, none⟩ = some (.slice A3 n3 c3) := x1_2.cell 4
  have cx1_2_5 : w1.cell? ⟨w.heap.size + 1 + 1, 5, none⟩ = some (.slice D3 m3 e3) := x1_2.cell 5
  have lx1_2_0 : w.heap.size + 2 < w1.heap.size := by have := x1_2.lt; omega
  have lx1_2_1 : w.heap.size + 1 < w1.heap.size := by have := x1_2.lt; omega
  have lx1_2_2 : w.heap.size < w1.heap.size := by have := x1_2.lt; omega
  have lx1_2_3 : w.heap.size < w1.heap.size + 1 := by have := x1_2.lt; omega
  go_wp2_with fail
  (with_reducible refine (l_short _ (w1.heap.size) 4 (fun i : Nat => if i = 0 then n else if i = 1 then n' else if i = 2 then n'' else n3) (fun i : Nat => if i = 0 then m else if i = 1 then m' else if i = 2 then m'' else m3) ?_ ?_).mono ?_); (exact rs4 (blkAt _ _ _ (by simp))); (decide); rintro e w2 ⟨r2, rfl, hr2, hb2⟩
  clear cx1_0_0 cx1_0_1 cx1_0_2 cx1_0_3 lx1_0_0 lx1_0_1 lx1_0_2 lx1_0_3 cx1_1_0 cx1_1_1 cx1_1_2 cx1_1_3 lx1_1_0 lx1_1_1 lx1_1_2 lx1_1_3 cx1_2_0 cx1_2_1 cx1_2_2 cx1_2_3 cx1_2_4 cx1_2_5 lx1_2_0 lx1_2_1 lx1_2_2 lx1_2_3
  have q2 : Below w1.heap.size w1 w2 := ((Below.refl _ _).alloc (Nat.le_refl _) _).trans (hb2.mono (by simp))
  replace Hra := Hra.belw q2
  replace Hrb := Hrb.belw q2
  replace Hrx := Hrx.belw q2
  replace Hry := Hry.belw q2
  replace x1_0 : Blk w2 (w.heap.size) 26 #[.bool b, .slice A n c, .slice D m e, .bool x] := x1_0.below q2 x1_0.lt
  replace x1_1 : Blk w2 (w.heap.size + 1) 26 #[.bool b', .slice A' n' c', .slice D' m' e', .bool x'] := x1_1.below q2 x1_1.lt
  replace x1_2 : Blk w2 (w.heap.size + 1 + 1) 28 #[.bool b'', .slice A'' n'' c'', .slice D'' m'' e'', .bool b3, .slice A3 n3 c3, .slice D3 m3 e3] := x1_2.below q2 x1_2.lt
  have x2_0 : Blk w2 (w1.heap.size) 24 #[.bool b, .slice A n c, .slice D m e, .bool b', .slice A' n' c', .slice D' m' e', .bool b'', .slice A'' n'' c'', .slice D'' m'' e'', .bool b3, .slice A3 n3 c3, .slice D3 m3 e3] := (blkAt _ _ _ (by simp)).below hb2 (by simp)
  have bw2 : Below w.heap.size w w2 := bw1.trans (q2.mono bw1.size)
  have lw2 : w1.heap.size + 1 ≤ w2.heap.size := by have := hb2.size; simp at this; omega
  clear hb2 q2 bw1
  have cx1_0_0 : w2.cell? ⟨w.heap.size, 0, none⟩ = some (.bool b) := x1_0.cell 0
  have cx1_0_1 : w2.cell? ⟨w.heap.size, 1, none⟩ = some (.slice A n c) := x1_0.cell 1
  have cx1_0_2 : w2.cell? ⟨w.heap.size, 2, none⟩ = some (.slice D m e) := x1_0.cell 2
  have cx1_0_3 : w2.cell? ⟨w.heap.size, 3, none⟩ = some (.bool x) := x1_0.cell 3
  have lx1_0_0 : w.heap.size < w2.heap.size := by have := x1_0.lt; omega
  have lx1_0_1 : w.heap.size < w2.heap.size + 1 := by have := x1_0.lt; omega
  have lx1_0_2 : w.heap.size < w2.heap.size + 2 := by have := x1_0.lt; omega
  have lx1_0_3 : w.heap.size < w2.heap.size + 3 := by have := x1_0.lt; omega
  have cx1_1_0 : w2.cell? ⟨w.heap.size + 1, 0, none⟩ = some (.bool b') := x1_1.cell 0
  have cx1_1_1 : w2.cell? ⟨w.heap.size + 1, 1, none⟩ = some (.slice A' n' c') := x1_1.cell 1
  have cx1_1_2 : w2.cell? ⟨w.heap.size + 1, 2, none⟩ = some (.slice D' m' e') := x1_1.cell 2
  have cx1_1_3 : w2.cell? ⟨w.heap.size + 1, 3, none⟩ = some (.bool x') := x1_1.cell 3
  have lx1_1_0 : w.heap.size + 1 < w2.heap.size := by have := x1_1.lt; omega
  have lx1_1_1 : w.heap.size < w2.heap.size := by have := x1_1.lt; omega
  have lx1_1_2 : w.heap.size < w2.heap.size + 1 := by have := x1_1.lt; omega
  have lx1_1_3 : w.heap.size < w2.heap.size + 2 := by have := x1_1.lt; omega
  cases r2
  · go_wp2_with fail
    (with_reducible refine (l_awake _).mono ?_); rintro e w3 ⟨rfl, hb3⟩
    clear cx1_0_0 cx1_0_1 cx1_0_2 cx1_0_3 lx1_0_0 lx1_0_1 lx1_0_2 lx1_0_3 cx1_1_0 cx1_1_1 cx1_1_2 cx1_1_3 lx1_1_0 lx1_1_1 lx1_1_2 lx1_1_3
    have q3 : Below w2.heap.size w2 w3 := hb3
    replace Hra := Hra.belw q3
    replace Hrb := Hrb.belw q3
    replace Hrx := Hrx.belw q3
    replace Hry := Hry.belw q3
    replace x1_0 : Blk w3 (w.heap.size) 26 #[.bool b, .slice A n c, .slice D m e, .bool x] := x1_0.below q3 x1_0.lt
    replace x1_1 : Blk w3 (w.heap.size + 1) 26 #[.bool b', .slice A' n' c', .slice D' m' e', .bool x'] := x1_1.below q3 x1_1.lt
    replace x1_2 : Blk w3 (w.heap.size + 1 + 1) 28 #[.bool b'', .slice A'' n'' c'', .slice D'' m'' e'', .bool b3, .slice A3 n3 c3, .slice D3 m3 e3] := x1_2.below q3 x1_2.lt
    replace x2_0 : Blk w3 (w1.heap.size) 24 #[.bool b, .slice A n c, .slice D m e, .bool b', .slice A' n' c', .slice D' m' e', .bool b'', .slice A'' n'' c'', .slice D'' m'' e'', .bool b3, .slice A3 n3 c3, .slice D3 m3 e3] := x2_0.below q3 x2_0.lt
    have bw3 : Below w.heap.size w w3 := bw2.trans (q3.mono bw2.size)
    have lw3 : w2.heap.size ≤ w3.heap.size := q3.size
    clear hb3 q3 bw2
    go_wp2_with fail
    go_ret
    exact retB rfl bw3
  · have hs0 := hr2 rfl 0 (by decide)
    have hs1 := hr2 rfl 1 (by decide)
    have hs2 := hr2 rfl 2 (by decide)
    have hs3 := hr2 rfl 3 (by decide)
    clear hr2
    replace Hra := QD.short Hra hs0
    replace Hrb := QD.short Hrb hs1
    replace Hrx := QD.short Hrx hs2
    replace Hry := QD.short Hry hs3
    clear hs0 hs1 hs2 hs3
    go_wp2_with fail
    (with_reducible refine (l_good _ (w2.heap.size) 2 (6) (fun i : Nat => if i = 0 then (ra) else (rb)) (fun i : Nat => if i = 0 then x else x') ?_ ?_ ?_ ?_).mono ?_); (exact gs2 (blkAt _ _ _ (by simp)) ((Hra.belw ((Below.refl _ _).alloc (Nat.le_refl _) _))) ((Hrb.belw ((Below.refl _ _).alloc (Nat.le_refl _) _)))); (decide); (decide); (decide); rintro e w3 ⟨r3, rfl, hr3, hb3⟩
    clear cx1_0_0 cx1_0_1 cx1_0_2 cx1_0_3 lx1_0_0 lx1_0_1 lx1_0_2 lx1_0_3 cx1_1_0 cx1_1_1 cx1_1_2 cx1_1_3 lx1_1_0 lx1_1_1 lx1_1_2 lx1_1_3
    have q3 : Below w2.heap.size w2 w3 := ((Below.refl _ _).alloc (Nat.le_refl _) _).trans (hb3.mono (by simp))
    replace Hra := Hra.belw q3
    replace Hrb := Hrb.belw q3
    replace Hrx := Hrx.belw q3
    replace Hry := Hry.belw q3
    replace x1_0 : Blk w3 (w.heap.size) 26 #[.bool b, .slice A n c, .slice D m e, .bool x] := x1_0.below q3 x1_0.lt
    replace x1_1 : Blk w3 (w.heap.size + 1) 26 #[.bool b', .slice A' n' c', .slice D' m' e', .bool x'] := x1_1.below q3 x1_1.lt
    replace x1_2 : Blk w3 (w.heap.size + 1 + 1) 28 #[.bool b'', .slice A'' n'' c'', .slice D'' m'' e'', .bool b3, .slice A3 n3 c3, .slice D3 m3 e3] := x1_2.below q3 x1_2.lt
    replace x2_0 : Blk w3 (w1.heap.size) 24 #[.bool b, .slice A n c, .slice D m e, .bool b', .slice A' n' c', .slice D' m' e', .bool b'', .slice A'' n'' c'', .slice D'' m'' e'', .bool b3, .slice A3 n3 c3, .slice D3 m3 e3] := x2_0.below q3 x2_0.lt
    have x3_0 : Blk w3 (w2.heap.size) 26 #[.bool b, .slice A n c, .slice D m e, .bool x, .bool b', .slice A' n' c', .slice D' m' e', .bool x'] := (blkAt _ _ _ (by simp)).below hb3 (by simp)
    have bw3 : Below w.heap.size w w3 := bw2.trans (q3.mono bw2.size)
    have lw3 : w2.heap.size + 1 ≤ w3.heap.size := by have := hb3.size; simp at this; omega
    clear hb3 q3 bw2
    have cx1_0_0 : w3.cell? ⟨w.heap.size, 0, none⟩ = some (.bool b) := x1_0.cell 0
    have cx1_0_1 : w3.cell? ⟨w.heap.size, 1, none⟩ = some (.slice A n c) := x1_0.cell 1
    have cx1_0_2 : w3.cell? ⟨w.heap.size, 2, none⟩ = some (.slice D m e) := x1_0.cell 2
    have cx1_0_3 : w3.cell? ⟨w.heap.size, 3, none⟩ = some (.bool x) := x1_0.cell 3
    have lx1_0_0 : w.heap.size < w3.heap.size := by have := x1_0.lt; omega
    have lx1_0_1 : w.heap.size < w3.heap.size + 1 := by have := x1_0.lt; omega
    have lx1_0_2 : w.heap.size < w3.heap.size + 2 := by have := x1_0.lt; omega
    have lx1_0_3 : w.heap.size < w3.heap.size + 3 := by have := x1_0.lt; omega
    have cx1_1_0 : w3.cell? ⟨w.heap.size + 1, 0, none⟩ = some (.bool b') := x1_1.cell 0
    have cx1_1_1 : w3.cell? ⟨w.heap.size + 1, 1, none⟩ = some (.slice A' n' c') := x1_1.cell 1
    have cx1_1_2 : w3.cell? ⟨w.heap.size + 1, 2, none⟩ = some (.slice D' m' e') := x1_1.cell 2
    have cx1_1_3 : w3.cell? ⟨w.heap.size + 1, 3, none⟩ = some (.bool x') := x1_1.cell 3
    have lx1_1_0 : w.heap.size + 1 < w3.heap.size := by have := x1_1.lt; omega
    have lx1_1_1 : w.heap.size < w3.heap.size := by have := x1_1.lt; omega
    have lx1_1_2 : w.heap.size < w3.heap.size + 1 := by have := x1_1.lt; omega
    have lx1_1_3 : w.heap.size < w3.heap.size + 2 := by have := x1_1.lt; omega
    cases r3
    · go_wp2_with fail
      (with_reducible refine (l_awake _).mono ?_); rintro e w4 ⟨rfl, hb4⟩
      clear cx1_0_0 cx1_0_1 cx1_0_2 cx1_0_3 lx1_0_0 lx1_0_1 lx1_0_2 lx1_0_3 cx1_1_0 cx1_1_1 cx1_1_2 cx1_1_3 lx1_1_0 lx1_1_1 lx1_1_2 lx1_1_3
      have q4 : Below w3.heap.size w3 w4 := hb4
      replace Hra := Hra.belw q4
      replace Hrb := Hrb.belw q4
      replace Hrx := Hrx.belw q4
      replace Hry := Hry.belw q4
      replace x1_0 : Blk w4 (w.heap.size) 26 #[.bool b, .slice A n c, .slice D m e, .bool x] := x1_0.below q4 x1_0.lt
      replace x1_1 : Blk w4 (w.heap.size + 1) 26 #[.bool b', .slice A' n' c', .slice D' m' e', .bool x'] := x1_1.below q4 x1_1.lt
      replace x1_2 : Blk w4 (w.heap.size + 1 + 1) 28 #[.bool b'', .slice A'' n'' c'', .slice D'' m'' e'', .bool b3, .slice A3 n3 c3, .slice D3 m3 e3] := x1_2.below q4 x1_2.lt
      replace x2_0 : Blk w4 (w1.heap.size) 24 #[.bool b, .slice A n c, .slice D m e, .bool b', .slice A' n' c', .slice D' m' e', .bool b'', .slice A'' n'' c'', .slice D'' m'' e'', .bool b3, .slice A3 n3 c3, .slice D3 m3 e3] := x2_0.below q4 x2_0.lt
      replace x3_0 : Blk w4 (w2.heap.size) 26 #[.bool b, .slice A n c, .slice D m e, .bool x, .bool b', .slice A' n' c', .slice D' m' e', .bool x'] := x3_0.below q4 x3_0.lt
      have bw4 : Below w.heap.size w w4 := bw3.trans (q4.mono bw3.size)
      have lw4 : w3.heap.size ≤ w4.heap.size := q4.size
      clear hb4 q4 bw3
      go_wp2_with fail
      go_ret
      exact retB rfl bw4
    · have hTa : TK w3 b A n c D m e x ⟨ra.q, x⟩ 6 := acc_tk Hra (hr3 rfl 0 (by decide))
      have hTb : TK w3 b' A' n' c' D' m' e' x' ⟨rb.q, x'⟩ 6 := acc_tk Hrb (hr3 rfl 1 (by decide))
      clear hr3
      have HOK := Lib.hid (And.intro hTa.2.2 hTb.2.2)
      have hQx := QD.qz Hrx
      have hQy := QD.qz Hry
      clear Hra Hrb Hrx Hry
      go_wp2_with fail
      (with_reducible refine (t_Add _ b A n c D m e x (⟨ra.q, x⟩) (6) ?_ b' A' n' c' D' m' e' x' (⟨rb.q, x'⟩) (6) ?_ ?_ ?_ ?_ ?_).mono ?_); (exact hTa); (exact hTb); (first | omega | decide | assumption); (first | omega | decide | assumption); (first | omega | decide | assumption); (first | omega | decide | assumption); rintro e w4 ⟨b4, A4, n4, c4, A'4, n'4, c'4, x4, rfl, h4, hb4⟩
      clear cx1_0_0 cx1_0_1 cx1_0_2 cx1_0_3 lx1_0_0 lx1_0_1 lx1_0_2 lx1_0_3 cx1_1_0 cx1_1_1 cx1_1_2 cx1_1_3 lx1_1_0 lx1_1_1 lx1_1_2 lx1_1_3
      have q4 : Below w3.heap.size w3 w4 := hb4
      replace hTa := hTa.belw q4
      replace hTb := hTb.belw q4
      replace hQx := hQx.belw q4
      replace hQy := hQy.belw q4
      replace x1_0 : Blk w4 (w.heap.size) 26 #[.bool b, .slice A n c, .slice D m e, .bool x] := x1_0.below q4 x1_0.lt
      replace x1_1 : Blk w4 (w.heap.size + 1) 26 #[.bool b', .slice A' n' c', .slice D' m' e', .bool x'] := x1_1.below q4 x1_1.lt
      replace x1_2 : Blk w4 (w.heap.size + 1 + 1) 28 #[.bool b'', .slice A'' n'' c'', .slice D'' m'' e'', .bool b3, .slice A3 n3 c3, .slice D3 m3 e3] := x1_2.below q4 x1_2.lt
      replace x2_0 : Blk w4 (w1.heap.size) 24 #[.bool b, .slice A n c, .slice D m e, .bool b', .slice A' n' c', .slice D' m' e', .bool b'', .slice A'' n'' c'', .slice D'' m'' e'', .bool b3, .slice A3 n3 c3, .slice D3 m3 e3] := x2_0.below q4 x2_0.lt
      replace x3_0 : Blk w4 (w2.heap.size) 26 #[.bool b, .slice A n c, .slice D m e, .bool x, .bool b', .slice A' n' c', .slice D' m' e', .bool x'] := x3_0.below q4 x3_0.lt
      have bw4 : Below w.heap.size w w4 := bw3.trans (q4.mono bw3.size)
      have lw4 : w3.heap.size ≤ w4.heap.size := q4.size
      clear hb4 q4 bw3
      have cx1_2_0 : w4.cell? ⟨w.heap.size + 1 + 1, 0, none⟩ = some (.bool b'') := x1_2.cell 0
      have cx1_2_1 : w4.cell? ⟨w.heap.size + 1 + 1, 1, none⟩ = some (.slice A'' n'' c'') := x1_2.cell 1
      have cx1_2_2 : w4.cell? ⟨w.heap.size + 1 + 1, 2, none⟩ = some (.slice D'' m'' e'') := x1_2.cell 2
      have cx1_2_3 : w4.cell? ⟨w.heap.size + 1 + 1, 3, none⟩ = some (.bool b3) := x1_2.cell 3
      have cx1_2_4 : w4.cell? ⟨w.heap.size + 1 + 1, 4, none⟩ = some (.slice A3 n3 c3) := x1_2.cell 4
      have cx1_2_5 : w4.cell? ⟨w.heap.size + 1 + 1, 5, none⟩ = some (.slice D3 m3 e3) := x1_2.cell 5
      have lx1_2_0 : w.heap.size + 2 < w4.heap.size := by have := x1_2.lt; omega
      have lx1_2_1 : w.heap.size + 1 < w4.heap.size := by have := x1_2.lt; omega
      have lx1_2_2 : w.heap.size < w4.heap.size := by have := x1_2.lt; omega
      have lx1_2_3 : w.heap.size < w4.heap.size + 1 := by have := x1_2.lt; omega
      go_wp2_with fail
      (with_reducible refine (t_Apply _ b4 A4 n4 c4 A'4 n'4 c'4 x4 (tadd (⟨ra.q, x⟩) (⟨rb.q, x'⟩)) (2 * (6) + 2 * (6) + 3) ?_ b'' A'' n'' c'' D'' m'' e'' (rx.q) (6) ?_ b3 A3 n3 c3 D3 m3 e3 (ry.q) (6) ?_ ?_ ?_ ?_ ?_ ?_ ?_).mono ?_); (exact (h4.belw ((Below.refl _ _).alloc (Nat.le_refl _) _)).tk); (exact (hQx.belw ((Below.refl _ _).alloc (Nat.le_refl _) _))); (exact (hQy.belw ((Below.refl _ _).alloc (Nat.le_refl _) _))); (first | omega | decide | assumption); (first | omega | decide | assumption); (first | omega | decide | assumption); (first | omega | decide | assumption); (first | omega | decide | assumption); (first | omega | decide | assumption); rintro e w5 ⟨b5, A5, n5, c5, A'5, n'5, c'5, d5, D5, m5, e5, D'5, m'5, e'5, rfl, h5, h'5, hb5⟩
      clear cx1_2_0 cx1_2_1 cx1_2_2 cx1_2_3 cx1_2_4 cx1_2_5 lx1_2_0 lx1_2_1 lx1_2_2 lx1_2_3
      have q5 : Below w4.heap.size w4 w5 := ((Below.refl _ _).alloc (Nat.le_refl _) _).trans (hb5.mono (by simp))
      replace hTa := hTa.belw q5
      replace hTb := hTb.belw q5
      replace hQx := hQx.belw q5
      replace hQy := hQy.belw q5
      replace h4 := h4.belw q5
      replace x1_0 : Blk w5 (w.heap.size) 26 #[.bool b, .slice A n c, .slice D m e, .bool x] := x1_0.below q5 x1_0.lt
      replace x1_1 : Blk w5 (w.heap.size + 1) 26 #[.bool b', .slice A' n' c', .slice D' m' e', .bool x'] := x1_1.below q5 x1_1.lt
      replace x1_2 : Blk w5 (w.heap.size + 1 + 1) 28 #[.bool b'', .slice A'' n'' c'', .slice D'' m'' e'', .bool b3, .slice A3 n3 c3, .slice D3 m3 e3] := x1_2.below q5 x1_2.lt
      replace x2_0 : Blk w5 (w1.heap.size) 24 #[.bool b, .slice A n c, .slice D m e, .bool b', .slice A' n' c', .slice D' m' e', .bool b'', .slice A'' n'' c'', .slice D'' m'' e'', .bool b3, .slice A3 n3 c3, .slice D3 m3 e3] := x2_0.below q5 x2_0.lt
      replace x3_0 : Blk w5 (w2.heap.size) 26 #[.bool b, .slice A n c, .slice D m e, .bool x, .bool b', .slice A' n' c', .slice D' m' e', .bool x'] := x3_0.below q5 x3_0.lt
      have x5_0 : Blk w5 (w4.heap.size) 26 #[.bool b4, .slice A4 n4 c4, .slice A'4 n'4 c'4, .bool x4] := (blkAt _ _ _ (by simp)).below hb5 (by simp)
      have bw5 : Below w.heap.size w w5 := bw4.trans (q5.mono bw4.size)
      have lw5 : w4.heap.size + 1 ≤ w5.heap.size := by have := hb5.size; simp at this; omega
      clear hb5 q5 bw4
      have cx1_0_0 : w5.cell? ⟨w.heap.size, 0, none⟩ = some (.bool b) := x1_0.cell 0
      have cx1_0_1 : w5.cell? ⟨w.heap.size, 1, none⟩ = some (.slice A n c) := x1_0.cell 1
      have cx1_0_2 : w5.cell? ⟨w.heap.size, 2, none⟩ = some (.slice D m e) := x1_0.cell 2
      have cx1_0_3 : w5.cell? ⟨w.heap.size, 3, none⟩ = some (.bool x) := x1_0.cell 3
      have lx1_0_0 : w.heap.size < w5.heap.size := by have := x1_0.lt; omega
      have lx1_0_1 : w.heap.size < w5.heap.size + 1 := by have := x1_0.lt; omega
      have lx1_0_2 : w.heap.size < w5.heap.size + 2 := by have := x1_0.lt; omega
      have lx1_0_3 : w.heap.size < w5.heap.size + 3 := by have := x1_0.lt; omega
      have cx1_2_0 : w5.cell? ⟨w.heap.size + 1 + 1, 0, none⟩ = some (.bool b'') := x1_2.cell 0
      have cx1_2_1 : w5.cell? ⟨w.heap.size + 1 + 1, 1, none⟩ = some (.slice A'' n'' c'') := x1_2.cell 1
      have cx1_2_2 : w5.cell? ⟨w.heap.size + 1 + 1, 2, none⟩ = some (.slice D'' m'' e'') := x1_2.cell 2
      have cx1_2_3 : w5.cell? ⟨w.heap.size + 1 + 1, 3, none⟩ = some (.bool b3) := x1_2.cell 3
      have cx1_2_4 : w5.cell? ⟨w.heap.size + 1 + 1, 4, none⟩ = some (.slice A3 n3 c3) := x1_2.cell 4
      have cx1_2_5 : w5.cell? ⟨w.heap.size + 1 + 1, 5, none⟩ = some (.slice D3 m3 e3) := x1_2.cell 5
      have lx1_2_0 : w.heap.size + 2 < w5.heap.size := by have := x1_2.lt; omega
      have lx1_2_1 : w.heap.size + 1 < w5.heap.size := by have := x1_2.lt; omega
      have lx1_2_2 : w.heap.size < w5.heap.size := by have := x1_2.lt; omega
      have lx1_2_3 : w.heap.size < w5.heap.size + 1 := by have := x1_2.lt; omega
      go_wp2_with fail
      (with_reducible refine (t_Apply _ b A n c D m e x (⟨ra.q, x⟩) (6) ?_ b'' A'' n'' c'' D'' m'' e'' (rx.q) (6) ?_ b3 A3 n3 c3 D3 m3 e3 (ry.q) (6) ?_ ?_ ?_ ?_ ?_ ?_ ?_).mono ?_); (exact (hTa.belw ((Below.refl _ _).alloc (Nat.le_refl _) _))); (exact (hQx.belw ((Below.refl _ _).alloc (Nat.le_refl _) _))); (exact (hQy.belw ((Below.refl _ _).alloc (Nat.le_refl _) _))); (first | omega | decide | assumption); (first | omega | decide | assumption); (first | omega | decide | assumption); (first | omega | decide | assumption); (first | omega | decide | assumption); (first | omega | decide | assumption); rintro e w6 ⟨b6, A6, n6, c6, A'6, n'6, c'6, d6, D6, m6, e6, D'6, m'6, e'6, rfl, h6, h'6, hb6⟩
      clear cx1_0_0 cx1_0_1 cx1_0_2 cx1_0_3 lx1_0_0 lx1_0_1 lx1_0_2 lx1_0_3 cx1_2_0 cx1_2_1 cx1_2_2 cx1_2_3 cx1_2_4 cx1_2_5 lx1_2_0 lx1_2_1 lx1_2_2 lx1_2_3
      have q6 : Below w5.heap.size w5 w6 := ((Below.refl _ _).alloc (Nat.le_refl _) _).trans (hb6.mono (by simp))
      replace hTa := hTa.belw q6
      replace hTb := hTb.belw q6
      replace hQx := hQx.belw q6
      replace hQy := hQy.belw q6
      replace h4 := h4.belw q6
      replace h5 := h5.belw q6
      replace h'5 := h'5.belw q6
      replace x1_0 : Blk w6 (w.heap.size) 26 #[.bool b, .slice A n c, .slice D m e, .bool x] := x1_0.below q6 x1_0.lt
      replace x1_1 : Blk w6 (w.heap.size + 1) 26 #[.bool b', .slice A' n' c', .slice D' m' e', .bool x'] := x1_1.below q6 x1_1.lt
      replace x1_2 : Blk w6 (w.heap.size + 1 + 1) 28 #[.bool b'', .slice A'' n'' c'', .slice D'' m'' e'', .bool b3, .slice A3 n3 c3, .slice D3 m3 e3] := x1_2.below q6 x1_2.lt
      replace x2_0 : Blk w6 (w1.heap.size) 24 #[.bool b, .slice A n c, .slice D m e, .bool b', .slice A' n' c', .slice D' m' e', .bool b'', .slice A'' n'' c'', .slice D'' m'' e'', .bool b3, .slice A3 n3 c3, .slice D3 m3 e3] := x2_0.below q6 x2_0.lt
      replace x3_0 : Blk w6 (w2.heap.size) 26 #[.bool b, .slice A n c, .slice D m e, .bool x, .bool b', .slice A' n' c', .slice D' m' e', .bool x'] := x3_0.below q6 x3_0.lt
      replace x5_0 : Blk w6 (w4.heap.size) 26 #[.bool b4, .slice A4 n4 c4, .slice A'4 n'4 c'4, .bool x4] := x5_0.below q6 x5_0.lt
      have x6_0 : Blk w6 (w5.heap.size) 28 #[.bool b5, .slice A5 n5 c5, .slice A'5 n'5 c'5, .bool d5, .slice D5 m5 e5, .slice D'5 m'5 e'5] := (blkAt _ _ _ (by simp)).below hb6 (by simp)
      have bw6 : Below w.heap.size w w6 := bw5.trans (q6.mono bw5.size)
      have lw6 : w5.heap.size + 1 ≤ w6.heap.size := by have := hb6.size; simp at this; omega
      clear hb6 q6 bw5
      have cx1_1_0 : w6.cell? ⟨w.heap.size + 1, 0, none⟩ = some (.bool b') := x1_1.cell 0
      have cx1_1_1 : w6.cell? ⟨w.heap.size + 1, 1, none⟩ = some (.slice A' n' c') := x1_1.cell 1
      have cx1_1_2 : w6.cell? ⟨w.heap.size + 1, 2, none⟩ = some (.slice D' m' e') := x1_1.cell 2
      have cx1_1_3 : w6.cell? ⟨w.heap.size + 1, 3, none⟩ = some (.bool x') := x1_1.cell 3
      have lx1_1_0 : w.heap.size + 1 < w6.heap.size := by have := x1_1.lt; omega
      have lx1_1_1 : w.heap.size < w6.heap.size := by have := x1_1.lt; omega
      have lx1_1_2 : w.heap.size < w6.heap.size + 1 := by have := x1_1.lt; omega
      have lx1_1_3 : w.heap.size < w6.heap.size + 2 := by have := x1_1.lt; omega
      go_wp2_with fail
      (with_reducible refine (t_Apply _ b' A' n' c' D' m' e' x' (⟨rb.q, x'⟩) (6) ?_ b6 A6 n6 c6 A'6 n'6 c'6 ((tapply (⟨ra.q, x⟩) (rx.q) (ry.q)).1) (8 * (6) + 9 + (6) + (6)) ?_ d6 D6 m6 e6 D'6 m'6 e'6 ((tapply (⟨ra.q, x⟩) (rx.q) (ry.q)).2) (8 * (6) + 9 + (6) + (6)) ?_ ?_ ?_ ?_ ?_ ?_ ?_).mono ?_); (exact (hTb.belw ((Below.refl _ _).alloc (Nat.le_refl _) _))); (exact (h6.belw ((Below.refl _ _).alloc (Nat.le_refl _) _)).qz); (exact (h'6.belw ((Below.refl _ _).alloc (Nat.le_refl _) _)).qz); (first | omega | decide | assumption); (first | omega | decide | assumption); (first | omega | decide | assumption); (first | omega | decide | assumption); (first | omega | decide | assumption); (first | omega | decide | assumption); rintro e w7 ⟨b7, A7, n7, c7, A'7, n'7, c'7, d7, D7, m7, e7, D'7, m'7, e'7, rfl, h7, h'7, hb7⟩
      clear cx1_1_0 cx1_1_1 cx1_1_2 cx1_1_3 lx1_1_0 lx1_1_1 lx1_1_2 lx1_1_3
      have q7 : Below w6.heap.size w6 w7 := ((Below.refl _ _).alloc (Nat.le_refl _) _).trans (hb7.mono (by simp))
      replace hTa := hTa.belw q7
      replace hTb := hTb.belw q7
      replace hQx := hQx.belw q7
      replace hQy := hQy.belw q7
      replace h4 := h4.belw q7
      replace h5 := h5.belw q7
      replace h'5 := h'5.belw q7
      replace h6 := h6.belw q7
      replace h'6 := h'6.belw q7
      replace x1_0 : Blk w7 (w.heap.size) 26 #[.bool b, .slice A n c, .slice D m e, .bool x] := x1_0.below q7 x1_0.lt
      replace x1_1 : Blk w7 (w.heap.size + 1) 26 #[.bool b', .slice A' n' c', .slice D' m' e', .bool x'] := x1_1.below q7 x1_1.lt
      replace x1_2 : Blk w7 (w.heap.size + 1 + 1) 28 #[.bool b'', .slice A'' n'' c'', .slice D'' m'' e'', .bool b3, .slice A3 n3 c3, .slice D3 m3 e3] := x1_2.below q7 x1_2.lt
      replace x2_0 : Blk w7 (w1.heap.size) 24 #[.bool b, .slice A n c, .slice D m e, .bool b', .slice A' n' c', .slice D' m' e', .bool b'', .slice A'' n'' c'', .slice D'' m'' e'', .bool b3, .slice A3 n3 c3, .slice D3 m3 e3] := x2_0.below q7 x2_0.lt
      replace x3_0 : Blk w7 (w2.heap.size) 26 #[.bool b, .slice A n c, .slice D m e, .bool x, .bool b', .slice A' n' c', .slice D' m' e', .bool x'] := x3_0.below q7 x3_0.lt
      replace x5_0 : Blk w7 (w4.heap.size) 26 #[.bool b4, .slice A4 n4 c4, .slice A'4 n'4 c'4, .bool x4] := x5_0.below q7 x5_0.lt
      replace x6_0 : Blk w7 (w5.heap.size) 28 #[.bool b5, .slice A5 n5 c5, .slice A'5 n'5 c'5, .bool d5, .slice D5 m5 e5, .slice D'5 m'5 e'5] := x6_0.below q7 x6_0.lt
      have x7_0 : Blk w7 (w6.heap.size) 28 #[.bool b6, .slice A6 n6 c6, .slice A'6 n'6 c'6, .bool d6, .slice D6 m6 e6, .slice D'6 m'6 e'6] := (blkAt _ _ _ (by simp)).below hb7 (by simp)
      have bw7 : Below w.heap.size w w7 := bw6.trans (q7.mono bw6.size)
      have lw7 : w6.heap.size + 1 ≤ w7.heap.size := by have := hb7.size; simp at this; omega
      clear hb7 q7 bw6
      go_wp2_with fail
      have p8 : Kp w7 (w7.alloc (.cells #[.bool b7, .slice A7 n7 c7, .slice A'7 n'7 c'7, .bool d7, .slice D7 m7 e7, .slice D'7 m'7 e'7] 28)) := ((Kp.refl w7).alloc (.cells #[.bool b7, .slice A7 n7 c7, .slice A'7 n'7 c'7, .bool d7, .slice D7 m7 e7, .slice D'7 m'7 e'7] 28))
      have bw8 : Below w.heap.size w (w7.alloc (.cells #[.bool b7, .slice A7 n7 c7, .slice A'7 n'7 c'7, .bool d7, .slice D7 m7 e7, .slice D'7 m'7 e'7] 28)) := (bw7.alloc (by first | omega | (simp <;> omega)) (.cells #[.bool b7, .slice A7 n7 c7, .slice A'7 n'7 c'7, .bool d7, .slice D7 m7 e7, .slice D'7 m'7 e'7] 28))
      have x8_0 : Blk (w7.alloc (.cells #[.bool b7, .slice A7 n7 c7, .slice A'7 n'7 c'7, .bool d7, .slice D7 m7 e7, .slice D'7 m'7 e'7] 28)) (w7.heap.size) 28 #[.bool b7, .slice A7 n7 c7, .slice A'7 n'7 c'7, .bool d7, .slice D7 m7 e7, .slice D'7 m'7 e'7] := (blkAt _ _ _ (by simp))
      replace x1_0 : Blk (w7.alloc (.cells #[.bool b7, .slice A7 n7 c7, .slice A'7 n'7 c'7, .bool d7, .slice D7 m7 e7, .slice D'7 m'7 e'7] 28)) (w.heap.size) 26 #[.bool b, .slice A n c, .slice D m e, .bool x] := (x1_0.alloc (.cells #[.bool b7, .slice A7 n7 c7, .slice A'7 n'7 c'7, .bool d7, .slice D7 m7 e7, .slice D'7 m'7 e'7] 28))
      replace x1_1 : Blk (w7.alloc (.cells #[.bool b7, .slice A7 n7 c7, .slice A'7 n'7 c'7, .bool d7, .slice D7 m7 e7, .slice D'7 m'7 e'7] 28)) (w.heap.size + 1) 26 #[.bool b', .slice A' n' c', .slice D' m' e', .bool x'] := (x1_1.alloc (.cells #[.bool b7, .slice A7 n7 c7, .slice A'7 n'7 c'7, .bool d7, .slice D7 m7 e7, .slice D'7 m'7 e'7] 28))
      replace x1_2 : Blk (w7.alloc (.cells #[.bool b7, .slice A7 n7 c7, .slice A'7 n'7 c'7, .bool d7, .slice D7 m7 e7, .slice D'7 m'7 e'7] 28)) (w.heap.size + 1 + 1) 28 #[.bool b'', .slice A'' n'' c'', .slice D'' m'' e'', .bool b3, .slice A3 n3 c3, .slice D3 m3 e3] := (x1_2.alloc (.cells #[.bool b7, .slice A7 n7 c7, .slice A'7 n'7 c'7, .bool d7, .slice D7 m7 e7, .slice D'7 m'7 e'7] 28))
      replace x2_0 : Blk (w7.alloc (.cells #[.bool b7, .slice A7 n7 c7, .slice A'7 n'7 c'7, .bool d7, .slice D7 m7 e7, .slice D'7 m'7 e'7] 28)) (w1.heap.size) 24 #[.bool b, .slice A n c, .slice D m e, .bool b', .slice A' n' c', .slice D' m' e', .bool b'', .slice A'' n'' c'', .slice D'' m'' e'', .bool b3, .slice A3 n3 c3, .slice D3 m3 e3] := (x2_0.alloc (.cells #[.bool b7, .slice A7 n7 c7, .slice A'7 n'7 c'7, .bool d7, .slice D7 m7 e7, .slice D'7 m'7 e'7] 28))
      replace x3_0 : Blk (w7.alloc (.cells #[.bool b7, .slice A7 n7 c7, .slice A'7 n'7 c'7, .bool d7, .slice D7 m7 e7, .slice D'7 m'7 e'7] 28)) (w2.heap.size) 26 #[.bool b, .slice A n c, .slice D m e, .bool x, .bool b', .slice A' n' c', .slice D' m' e', .bool x'] := (x3_0.alloc (.cells #[.bool b7, .slice A7 n7 c7, .slice A'7 n'7 c'7, .bool d7, .slice D7 m7 e7, .slice D'7 m'7 e'7] 28))
      replace x5_0 : Blk (w7.alloc (.cells #[.bool b7, .slice A7 n7 c7, .slice A'7 n'7 c'7, .bool d7, .slice D7 m7 e7, .slice D'7 m'7 e'7] 28)) (w4.heap.size) 26 #[.bool b4, .slice A4 n4 c4, .slice A'4 n'4 c'4, .bool x4] := (x5_0.alloc (.cells #[.bool b7, .slice A7 n7 c7, .slice A'7 n'7 c'7, .bool d7, .slice D7 m7 e7, .slice D'7 m'7 e'7] 28))
      replace x6_0 : Blk (w7.alloc (.cells #[.bool b7, .slice A7 n7 c7, .slice A'7 n'7 c'7, .bool d7, .slice D7 m7 e7, .slice D'7 m'7 e'7] 28)) (w5.heap.size) 28 #[.bool b5, .slice A5 n5 c5, .slice A'5 n'5 c'5, .bool d5, .slice D5 m5 e5, .slice D'5 m'5 e'5] := (x6_0.alloc (.cells #[.bool b7, .slice A7 n7 c7, .slice A'7 n'7 c'7, .bool d7, .slice D7 m7 e7, .slice D'7 m'7 e'7] 28))
      replace x7_0 : Blk (w7.alloc (.cells #[.bool b7, .slice A7 n7 c7, .slice A'7 n'7 c'7, .bool d7, .slice D7 m7 e7, .slice D'7 m'7 e'7] 28)) (w6.heap.size) 28 #[.bool b6, .slice A6 n6 c6, .slice A'6 n'6 c'6, .bool d6, .slice D6 m6 e6, .slice D'6 m'6 e'6] := (x7_0.alloc (.cells #[.bool b7, .slice A7 n7 c7, .slice A'7 n'7 c'7, .bool d7, .slice D7 m7 e7, .slice D'7 m'7 e'7] 28))
      have lw8 : w7.heap.size + 1 ≤ (w7.alloc (.cells #[.bool b7, .slice A7 n7 c7, .slice A'7 n'7 c'7, .bool d7, .slice D7 m7 e7, .slice D'7 m'7 e'7] 28)).heap.size := by simp
      generalize hE8 : (w7.alloc (.cells #[.bool b7, .slice A7 n7 c7, .slice A'7 n'7 c'7, .bool d7, .slice D7 m7 e7, .slice D'7 m'7 e'7] 28)) = w8 at p8 bw8 lw8 x8_0 x1_0 x1_1 x1_2 x2_0 x3_0 x5_0 x6_0 x7_0 ⊢
      clear hE8
      replace hTa := hTa.keep p8
      replace hTb := hTb.keep p8
      replace hQx := hQx.keep p8
      replace hQy := hQy.keep p8
      replace h4 := h4.keep p8
      replace h5 := h5.keep p8
      replace h'5 := h'5.keep p8
      replace h6 := h6.keep p8
      replace h'6 := h'6.keep p8
      replace h7 := h7.keep p8
      replace h'7 := h'7.keep p8
      clear bw7
      have cx1_2_0 : w8.cell? ⟨w.heap.size + 1 + 1, 0, none⟩ = some (.bool b'') := x1_2.cell 0
      have cx1_2_1 : w8.cell? ⟨w.heap.size + 1 + 1, 1, none⟩ = some (.slice A'' n'' c'') := x1_2.cell 1
      have cx1_2_2 : w8.cell? ⟨w.heap.size + 1 + 1, 2, none⟩ = some (.slice D'' m'' e'') := x1_2.cell 2
      have cx1_2_3 : w8.cell? ⟨w.heap.size + 1 + 1, 3, none⟩ = some (.bool b3) := x1_2.cell 3
      have cx1_2_4 : w8.cell? ⟨w.heap.size + 1 + 1, 4, none⟩ = some (.slice A3 n3 c3) := x1_2.cell 4
      have cx1_2_5 : w8.cell? ⟨w.heap.size + 1 + 1, 5, none⟩ = some (.slice D3 m3 e3) := x1_2.cell 5
      have lx1_2_0 : w.heap.size + 2 < w8.heap.size := by have := x1_2.lt; omega
      have lx1_2_1 : w.heap.size + 1 < w8.heap.size := by have := x1_2.lt; omega
      have lx1_2_2 : w.heap.size < w8.heap.size := by have := x1_2.lt; omega
      have lx1_2_3 : w.heap.size < w8.heap.size + 1 := by have := x1_2.lt; omega
      refine wp_region_lin (B := w.heap.size) (fr := fun xf => ⟨List.toArray (.agg #[.bool b, .slice A n c, .slice D m e, .bool x] :: .agg #[.bool b', .slice A' n' c', .slice D' m' e', .bool x'] :: .agg #[.bool b'', .slice A'' n'' c'', .slice D'' m'' e'', .bool b3, .slice A3 n3 c3, .slice D3 m3 e3] :: .pointer (some ⟨w.heap.size, 0, none⟩) :: .pointer (some ⟨w.heap.size + 1, 0, none⟩) :: .pointer (some ⟨w.heap.size + 1 + 1, 0, none⟩) :: .bool false :: .pointer (some ⟨w4.heap.size, 0, none⟩) :: .nilIface :: .pointer (some ⟨w5.heap.size, 0, none⟩) :: .nilIface :: .pointer (some ⟨w6.heap.size, 0, none⟩) :: .nilIface :: .pointer (some ⟨w7.heap.size, 0, none⟩) :: .nilIface :: xf 11 :: undef :: .bool true :: .bool false :: .bool false :: .pointer (some ⟨w.heap.size, 0, none⟩) :: .agg #[.bool b, .slice A n c, .slice D m e] :: .pointer (some ⟨w.heap.size + 1, 0, none⟩) :: .agg #[.bool b', .slice A' n' c', .slice D' m' e'] :: .pointer (some ⟨w.heap.size + 1 + 1, 0, none⟩) :: .agg #[.bool b'', .slice A'' n'' c'', .slice D'' m'' e''] :: .pointer (some ⟨w.heap.size + 1 + 1, 3, none⟩) :: .agg #[.bool b3, .slice A3 n3 c3, .slice D3 m3 e3] :: .slice (some ⟨w1.heap.size, 0, none⟩) 4 4 :: .bool true :: .bool false :: .bool false :: .bool false :: .agg #[.bool b, .slice A n c, .slice D m e, .bool x] :: .agg #[.bool b', .slice A' n' c', .slice D' m' e', .bool x'] :: .slice (some ⟨w2.heap.size, 0, none⟩) 2 2 :: .bool true :: .bool false :: .bool false :: undef :: .tuple #[.agg #[.bool b4, .slice A4 n4 c4, .slice A'4 n'4 c'4, .bool x4], .nilIface] :: .agg #[.bool b, .slice A n c, .slice D m e, .bool x] :: .agg #[.bool b', .slice A' n' c', .slice D' m' e', .bool x'] :: .tuple #[.agg #[.bool b4, .slice A4 n4 c4, .slice A'4 n'4 c'4, .bool x4], .nilIface] :: .agg #[.bool b4, .slice A4 n4 c4, .slice A'4 n'4 c'4, .bool x4] :: .nilIface :: .tuple #[.agg #[.bool b5, .slice A5 n5 c5, .slice A'5 n'5 c'5, .bool d5, .slice D5 m5 e5, .slice D'5 m'5 e'5], .nilIface] :: .agg #[.bool b4, .slice A4 n4 c4, .slice A'4 n'4 c'4, .bool x4] :: .agg #[.bool b'', .slice A'' n'' c'', .slice D'' m'' e'', .bool b3, .slice A3 n3 c3, .slice D3 m3 e3] :: .tuple #[.agg #[.bool b5, .slice A5 n5 c5, .slice A'5 n'5 c'5, .bool d5, .slice D5 m5 e5, .slice D'5 m'5 e'5], .nilIface] :: .agg #[.bool b5, .slice A5 n5 c5, .slice A'5 n'5 c'5, .bool d5, .slice D5 m5 e5, .slice D'5 m'5 e'5] :: .nilIface :: .tuple #[.agg #[.bool b6, .slice A6 n6 c6, .slice A'6 n'6 c'6, .bool d6, .slice D6 m6 e6, .slice D'6 m'6 e'6], .nilIface] :: .agg #[.bool b, .slice A n c, .slice D m e, .bool x] :: .agg #[.bool b'', .slice A'' n'' c'', .slice D'' m'' e'', .bool b3, .slice A3 n3 c3, .slice D3 m3 e3] :: .tuple #[.agg #[.bool b6, .slice A6 n6 c6, .slice A'6 n'6 c'6, .bool d6, .slice D6 m6 e6, .slice D'6 m'6 e'6], .nilIface] :: .agg #[.bool b6, .slice A6 n6 c6, .slice A'6 n'6 c'6, .bool d6, .slice D6 m6 e6, .slice D'6 m'6 e'6] :: .nilIface :: .tuple #[.agg #[.bool b7, .slice A7 n7 c7, .slice A'7 n'7 c'7, .bool d7, .slice D7 m7 e7, .slice D'7 m'7 e'7], .nilIface] :: .agg #[.bool b', .slice A' n' c', .slice D' m' e', .bool x'] :: .agg #[.bool b6, .slice A6 n6 c6, .slice A'6 n'6 c'6, .bool d6, .slice D6 m6 e6, .slice D'6 m'6 e'6] :: .tuple #[.agg #[.bool b7, .slice A7 n7 c7, .slice A'7 n'7 c'7, .bool d7, .slice D7 m7 e7, .slice D'7 m'7 e'7], .nilIface] :: .agg #[.bool b7, .slice A7 n7 c7, .slice A'7 n'7 c'7, .bool d7, .slice D7 m7 e7, .slice D'7 m'7 e'7] :: .nilIface :: .nilIface :: .bool false :: .bool false :: .nilIface :: .bool false :: .bool false :: .bool false :: .nilIface :: .bool false :: .bool false :: .bool false :: .nilIface :: .bool false :: .bool false :: xf 0 :: xf 1 :: xf 2 :: xf 3 :: xf 4 :: xf 5 :: xf 6 :: xf 7 :: xf 8 :: xf 9 :: xf 10 :: undef :: undef :: undef :: undef :: undef :: undef :: undef :: undef :: undef :: undef :: undef :: undef :: undef :: undef :: undef :: undef :: undef :: undef :: undef :: undef :: undef :: undef :: undef :: undef :: undef :: undef :: undef :: undef :: undef :: undef :: undef :: []), []⟩) (R := fun i => List.getD ((PEq (.pointer (some ⟨w.heap.size + 1 + 1, 0, none⟩))) :: (PEq (.agg #[.bool b'', .slice A'' n'' c'', .slice D'' m'' e''])) :: (PEq (.pointer (some ⟨w.heap.size + 1 + 1, 0, none⟩))) :: (PEq (.agg #[.bool b'', .slice A'' n'' c'', .slice D'' m'' e''])) :: (VQ ((rx.q) * (rx.q)) ((6) + (6))) :: (PEq (.pointer (some ⟨w.heap.size + 1 + 1, 3, none⟩))) :: (PEq (.agg #[.bool b3, .slice A3 n3 c3, .slice D3 m3 e3])) :: (PEq (.pointer (some ⟨w.heap.size + 1 + 1, 3, none⟩))) :: (PEq (.agg #[.bool b3, .slice A3 n3 c3, .slice D3 m3 e3])) :: (VQ ((ry.q) * (ry.q)) ((6) + (6))) :: (VQ (((rx.q) * (rx.q)) + ((ry.q) * (ry.q))) (((6) + (6)) + ((6) + (6)) + 1)) :: PAny :: PAny :: []) i (fun _ _ => True)) (es := [⟨11, 12, 24, #[.bool false, .slice none 0 0, .slice none 0 0], CQ (((rx.q) * (rx.q)) + ((ry.q) * (ry.q))) (((6) + (6)) + ((6) + (6)) + 1)⟩]) (ow := [⟨w.heap.size, 13, 0, 26, #[.bool b, .slice A n c, .slice D m e, .bool x], CAny⟩, ⟨w.heap.size + 1, 13, 0, 26, #[.bool b', .slice A' n' c', .slice D' m' e', .bool x'], CAny⟩, ⟨w.heap.size + 1 + 1, 13, 0, 28, #[.bool b'', .slice A'' n'' c'', .slice D'' m'' e'', .bool b3, .slice A3 n3 c3, .slice D3 m3 e3], CAny⟩, ⟨w1.heap.size, 13, 0, 24, #[.bool b, .slice A n c, .slice D m e, .bool b', .slice A' n' c', .slice D' m' e', .bool b'', .slice A'' n'' c'', .slice D'' m'' e'', .bool b3, .slice A3 n3 c3, .slice D3 m3 e3], CAny⟩, ⟨w2.heap.size, 13, 0, 26, #[.bool b, .slice A n c, .slice D m e, .bool x, .bool b', .slice A' n' c', .slice D' m' e', .bool x'], CAny⟩, ⟨w4.heap.size, 13, 0, 26, #[.bool b4, .slice A4 n4 c4, .slice A'4 n'4 c'4, .bool x4], CAny⟩, ⟨w5.heap.size, 13, 0, 28, #[.bool b5, .slice A5 n5 c5, .slice A'5 n'5 c'5, .bool d5, .slice D5 m5 e5, .slice D'5 m'5 e'5], CAny⟩, ⟨w6.heap.size, 13, 0, 28, #[.bool b6, .slice A6 n6 c6, .slice A'6 n'6 c'6, .bool d6, .slice D6 m6 e6, .slice D'6 m'6 e'6], CAny⟩, ⟨w7.heap.size, 13, 0, 28, #[.bool b7, .slice A7 n7 c7, .slice A'7 n'7 c'7, .bool d7, .slice D7 m7 e7, .slice D'7 m'7 e'7], CAny⟩]) (x0 := (fun _ => undef)) (by kernel_rfl)
        (each_of ⟨fun _ _ => rfl, fun _ _ => rfl, fun _ _ => rfl, fun _ _ => rfl, fun _ _ => rfl, fun _ _ => rfl, fun _ _ => rfl, fun _ _ => rfl, fun _ _ => rfl, fun _ _ => rfl, fun _ _ => rfl, fun _ _ => rfl, fun _ _ => rfl, trivial⟩) (each_of (acyc_from _ 0 (by kernel_rfl))) (AllStab.get _ ⟨stEq _, stEq _, stEq _, stEq _, stQ _ _, stEq _, stEq _, stEq _, stEq _, stQ _ _, stQ _ _, stAny, stAny, trivial⟩)
        (List.forall_mem_cons.2 ⟨scQ _ _, fun _ h => nomatch h⟩) (List.forall_mem_cons.2 ⟨scAny, List.forall_mem_cons.2 ⟨scAny, List.forall_mem_cons.2 ⟨scAny, List.forall_mem_cons.2 ⟨scAny, List.forall_mem_cons.2 ⟨scAny, List.forall_mem_cons.2 ⟨scAny, List.forall_mem_cons.2 ⟨scAny, List.forall_mem_cons.2 ⟨scAny, List.forall_mem_cons.2 ⟨scAny, fun _ h => nomatch h⟩⟩⟩⟩⟩⟩⟩⟩⟩) (List.forall_mem_cons.2 ⟨⟨by simp, by simp⟩, fun _ h => nomatch h⟩) bw8.size
        (List.forall_mem_cons.2 ⟨⟨x1_0, by show w.heap.size ≤ w.heap.size; omega⟩, List.forall_mem_cons.2 ⟨⟨x1_1, by show w.heap.size ≤ w.heap.size + 1; omega⟩, List.forall_mem_cons.2 ⟨⟨x1_2, by show w.heap.size ≤ w.heap.size + 1 + 1; omega⟩, List.forall_mem_cons.2 ⟨⟨x2_0, by show w.heap.size ≤ w1.heap.size; omega⟩, List.forall_mem_cons.2 ⟨⟨x3_0, by show w.heap.size ≤ w2.heap.size; omega⟩, List.forall_mem_cons.2 ⟨⟨x5_0, by show w.heap.size ≤ w4.heap.size; omega⟩, List.forall_mem_cons.2 ⟨⟨x6_0, by show w.heap.size ≤ w5.heap.size; omega⟩, List.forall_mem_cons.2 ⟨⟨x7_0, by show w.heap.size ≤ w6.heap.size; omega⟩, List.forall_mem_cons.2 ⟨⟨x8_0, by show w.heap.size ≤ w7.heap.size; omega⟩, fun _ h => nomatch h⟩⟩⟩⟩⟩⟩⟩⟩⟩) (ownDist (by simp <;> omega))
        (each_of ⟨?_, ?_, ?_, ?_, ?_, ?_, ?_, ?_, ?_, ?_, ?_, ?_, ?_, trivial⟩) ?_
      · exact .inl ⟨by simp, by simp, fun xf wq hk hbl hd K hK => by
          (try dsimp only)
          go_simp
          exact hK.out (.pointer (some ⟨w.heap.size + 1 + 1, 0, none⟩)) _ rfl (brefl _)⟩
      · exact .inl ⟨by simp, by simp, fun xf wq hk hbl hd K hK => by
          have dq0 : xf 0 = .pointer (some ⟨w.heap.size + 1 + 1, 0, none⟩) := hd ⟨0, .data⟩ (by simp) rfl
          have y : Blk wq (w.heap.size + 1 + 1) 28 #[.bool b'', .slice A'' n'' c'', .slice D'' m'' e'', .bool b3, .slice A3 n3 c3, .slice D3 m3 e3] := hbl _ (List.Mem.tail _ (List.Mem.tail _ (List.Mem.head _))) (by simp [Region.binds])
          have hcl0 : wq.cell? ⟨w.heap.size + 1 + 1, 0, none⟩ = some (.bool b'') := y.cell 0
          have hcl1 : wq.cell? ⟨w.heap.size + 1 + 1, 1, none⟩ = some (.slice A'' n'' c'') := y.cell 1
          have hcl2 : wq.cell? ⟨w.heap.size + 1 + 1, 2, none⟩ = some (.slice D'' m'' e'') := y.cell 2
          have hcl3 : wq.cell? ⟨w.heap.size + 1 + 1, 3, none⟩ = some (.bool b3) := y.cell 3
          have hcl4 : wq.cell? ⟨w.heap.size + 1 + 1, 4, none⟩ = some (.slice A3 n3 c3) := y.cell 4
          have hcl5 : wq.cell? ⟨w.heap.size + 1 + 1, 5, none⟩ = some (.slice D3 m3 e3) := y.cell 5
          (try dsimp only); (try simp only [dq0])
          go_simp
          have hz := hK.out (.agg #[.bool b'', .slice A'' n'' c'', .slice D'' m'' e'']) _ rfl (brefl _)
          simp only [dq0] at hz
          exact hz⟩
      · exact .inl ⟨by simp, by simp, fun xf wq hk hbl hd K hK => by
          (try dsimp only)
          go_simp
          exact hK.out (.pointer (some ⟨w.heap.size + 1 + 1, 0, none⟩)) _ rfl (brefl _)⟩
      · exact .inl ⟨by simp, by simp, fun xf wq hk hbl hd K hK => by
          have dq2 : xf 2 = .pointer (some ⟨w.heap.size + 1 + 1, 0, none⟩) := hd ⟨2, .data⟩ (by simp) rfl
          have y : Blk wq (w.heap.size + 1 + 1) 28 #[.bool b'', .slice A'' n'' c'', .slice D'' m'' e'', .bool b3, .slice A3 n3 c3, .slice D3 m3 e3] := hbl _ (List.Mem.tail _ (List.Mem.tail _ (List.Mem.head _))) (by simp [Region.binds])
          have hcl0 : wq.cell? ⟨w.heap.size + 1 + 1, 0, none⟩ = some (.bool b'') := y.cell 0
          have hcl1 : wq.cell? ⟨w.heap.size + 1 + 1, 1, none⟩ = some (.slice A'' n'' c'') := y.cell 1
          have hcl2 : wq.cell? ⟨w.heap.size + 1 + 1, 2, none⟩ = some (.slice D'' m'' e'') := y.cell 2
          have hcl3 : wq.cell? ⟨w.heap.size + 1 + 1, 3, none⟩ = some (.bool b3) := y.cell 3
          have hcl4 : wq.cell? ⟨w.heap.size + 1 + 1, 4, none⟩ = some (.slice A3 n3 c3) := y.cell 4
          have hcl5 : wq.cell? ⟨w.heap.size + 1 + 1, 5, none⟩ = some (.slice D3 m3 e3) := y.cell 5
          (try dsimp only); (try simp only [dq2])
          go_simp
          have hz := hK.out (.agg #[.bool b'', .slice A'' n'' c'', .slice D'' m'' e'']) _ rfl (brefl _)
          simp only [dq2] at hz
          exact hz⟩
      · exact .inl ⟨by simp, by simp, fun xf wq hk hbl hd K hK => by
          have dq1 : xf 1 = .agg #[.bool b'', .slice A'' n'' c'', .slice D'' m'' e''] := hd ⟨1, .data⟩ (by simp) rfl
          have dq3 : xf 3 = .agg #[.bool b'', .slice A'' n'' c'', .slice D'' m'' e''] := hd ⟨3, .data⟩ (by simp) rfl
          (try dsimp only); (try simp only [dq1, dq3])
          go_simp
          go_at_call 12
          (with_reducible refine (f_mul _ b'' A'' n'' c'' D'' m'' e'' (rx.q) (6) ?_ b'' A'' n'' c'' D'' m'' e'' (rx.q) (6) ?_ ?_ ?_ ?_ ?_).mono ?_); (exact (hQx.keep hk)); (exact (hQx.keep hk)); (first | omega | decide | assumption); (first | omega | decide | assumption); (first | omega | decide | assumption); (first | omega | decide | assumption); rintro e wr ⟨b10, A10, n10, c10, A'10, n'10, c'10, rfl, h10, hbr⟩
          have hz := hK.out _ _ ⟨b10, A10, n10, c10, A'10, n'10, c'10, rfl, h10⟩ hbr
          simp only [dq1, dq3] at hz
          exact hz⟩
      · exact .inl ⟨by simp, by simp, fun xf wq hk hbl hd K hK => by
          (try dsimp only)
          go_simp
          exact hK.out (.pointer (some ⟨w.heap.size + 1 + 1, 3, none⟩)) _ rfl (brefl _)⟩
      · exact .inl ⟨by simp, by simp, fun xf wq hk hbl hd K hK => by
          have dq5 : xf 5 = .pointer (some ⟨w.heap.size + 1 + 1, 3, none⟩) := hd ⟨5, .data⟩ (by simp) rfl
          have y : Blk wq (w.heap.size + 1 + 1) 28 #[.bool b'', .slice A'' n'' c'', .slice D'' m'' e'', .bool b3, .slice A3 n3 c3, .slice D3 m3 e3] := hbl _ (List.Mem.tail _ (List.Mem.tail _ (List.Mem.head _))) (by simp [Region.binds])
          have hcl0 : wq.cell? ⟨w.heap.size + 1 + 1, 0, none⟩ = some (.bool b'') := y.cell 0
          have hcl1 : wq.cell? ⟨w.heap.size + 1 + 1, 1, none⟩ = some (.slice A'' n'' c'') := y.cell 1
          have hcl2 : wq.cell? ⟨w.heap.size + 1 + 1, 2, none⟩ = some (.slice D'' m'' e'') := y.cell 2
          have hcl3 : wq.cell? ⟨w.heap.size + 1 + 1, 3, none⟩ = some (.bool b3) := y.cell 3
          have hcl4 : wq.cell? ⟨w.heap.size + 1 + 1, 4, none⟩ = some (.slice A3 n3 c3) := y.cell 4
          have hcl5 : wq.cell? ⟨w.heap.size + 1 + 1, 5, none⟩ = some (.slice D3 m3 e3) := y.cell 5
          (try dsimp only); (try simp only [dq5])
          go_simp
          have hz := hK.out (.agg #[.bool b3, .slice A3 n3 c3, .slice D3 m3 e3]) _ rfl (brefl _)
          simp only [dq5] at hz
          exact hz⟩
      · exact .inl ⟨by simp, by simp, fun xf wq hk hbl hd K hK => by
          (try dsimp only)
          go_simp
          exact hK.out (.pointer (some ⟨w.heap.size + 1 + 1, 3, none⟩)) _ rfl (brefl _)⟩
      · exact .inl ⟨by simp, by simp, fun xf wq hk hbl hd K hK => by
          have dq7 : xf 7 = .pointer (some ⟨w.heap.size + 1 + 1, 3, none⟩) := hd ⟨7, .data⟩ (by simp) rfl
          have y : Blk wq (w.heap.size + 1 + 1) 28 #[.bool b'', .slice A'' n'' c'', .slice D'' m'' e'', .bool b3, .slice A3 n3 c3, .slice D3 m3 e3] := hbl _ (List.Mem.tail _ (List.Mem.tail _ (List.Mem.head _))) (by simp [Region.binds])
          have hcl0 : wq.cell? ⟨w.heap.size + 1 + 1, 0, none⟩ = some (.bool b'') := y.cell 0
          have hcl1 : wq.cell? ⟨w.heap.size + 1 + 1, 1, none⟩ = some (.slice A'' n'' c'') := y.cell 1
          have hcl2 : wq.cell? ⟨w.heap.size + 1 + 1, 2, none⟩ = some (.slice D'' m'' e'') := y.cell 2
          have hcl3 : wq.cell? ⟨w.heap.size + 1 + 1, 3, none⟩ = some (.bool b3) := y.cell 3
          have hcl4 : wq.cell? ⟨w.heap.size + 1 + 1, 4, none⟩ = some (.slice A3 n3 c3) := y.cell 4
          have hcl5 : wq.cell? ⟨w.heap.size + 1 + 1, 5, none⟩ = some (.slice D3 m3 e3) := y.cell 5
          (try dsimp only); (try simp only [dq7])
          go_simp
          have hz := hK.out (.agg #[.bool b3, .slice A3 n3 c3, .slice D3 m3 e3]) _ rfl (brefl _)
          simp only [dq7] at hz
          exact hz⟩
      · exact .inl ⟨by simp, by simp, fun xf wq hk hbl hd K hK => by
          have dq6 : xf 6 = .agg #[.bool b3, .slice A3 n3 c3, .slice D3 m3 e3] := hd ⟨6, .data⟩ (by simp) rfl
          have dq8 : xf 8 = .agg #[.bool b3, .slice A3 n3 c3, .slice D3 m3 e3] := hd ⟨8, .data⟩ (by simp) rfl
          (try dsimp only); (try simp only [dq6, dq8])
          go_simp
          go_at_call 12
          (with_reducible refine (f_mul _ b3 A3 n3 c3 D3 m3 e3 (ry.q) (6) ?_ b3 A3 n3 c3 D3 m3 e3 (ry.q) (6) ?_ ?_ ?_ ?_ ?_).mono ?_); (exact (hQy.keep hk)); (exact (hQy.keep hk)); (first | omega | decide | assumption); (first | omega | decide | assumption); (first | omega | decide | assumption); (first | omega | decide | assumption); rintro e wr ⟨b11, A11, n11, c11, A'11, n'11, c'11, rfl, h11, hbr⟩
          have hz := hK.out _ _ ⟨b11, A11, n11, c11, A'11, n'11, c'11, rfl, h11⟩ hbr
          simp only [dq6, dq8] at hz
          exact hz⟩
      · exact .inl ⟨by simp, by simp, fun xf wq hk hbl hd K hK => by
          obtain ⟨b10, A10, n10, c10, A'10, n'10, c'10, dq4, h10⟩ : VQ ((rx.q) * (rx.q)) ((6) + (6)) (xf 4) wq := hd ⟨4, .data⟩ (by simp) rfl
          obtain ⟨b11, A11, n11, c11, A'11, n'11, c'11, dq9, h11⟩ : VQ ((ry.q) * (ry.q)) ((6) + (6)) (xf 9) wq := hd ⟨9, .data⟩ (by simp) rfl
          (try dsimp only); (try simp only [dq4, dq9])
          go_simp
          go_at_call 11
          (with_reducible refine (f_add _ b10 A10 n10 c10 A'10 n'10 c'10 ((rx.q) * (rx.q)) ((6) + (6)) ?_ b11 A11 n11 c11 A'11 n'11 c'11 ((ry.q) * (ry.q)) ((6) + (6)) ?_ ?_ ?_ ?_ ?_).mono ?_); (exact h10.qz); (exact h11.qz); (first | omega | decide | assumption); (first | omega | decide | assumption); (first | omega | decide | assumption); (first | omega | decide | assumption); rintro e wr ⟨b12, A12, n12, c12, A'12, n'12, c'12, rfl, h12, hbr⟩
          have hz := hK.out _ _ ⟨b12, A12, n12, c12, A'12, n'12, c'12, rfl, h12⟩ hbr
          simp only [dq4, dq9] at hz
          exact hz⟩
      · exact .inr (.inl ⟨⟨11, 12, 24, #[.bool false, .slice none 0 0, .slice none 0 0], CQ (((rx.q) * (rx.q)) + ((ry.q) * (ry.q))) (((6) + (6)) + ((6) + (6)) + 1)⟩, by simp, rfl, by simp, by simp, by simp, fun _ _ => True.intro, fun xf wq K hK => by
          (try dsimp only)
          go_simp
          exact hK.out⟩)
      · exact .inr (.inr (.inl ⟨⟨11, 12, 24, #[.bool false, .slice none 0 0, .slice none 0 0], CQ (((rx.q) * (rx.q)) + ((ry.q) * (ry.q))) (((6) + (6)) + ((6) + (6)) + 1)⟩, by simp, rfl, by simp, by simp, by simp, by simp, (show KT 24 = false by decide), fun _ _ => True.intro, ⟨⟨11, .data⟩, by simp, rfl, rfl⟩, fun xf wq g hx hblk hd => by
          obtain ⟨b12, A12, n12, c12, A'12, n'12, c'12, dq10, h12⟩ : VQ (((rx.q) * (rx.q)) + ((ry.q) * (ry.q))) (((6) + (6)) + ((6) + (6)) + 1) (xf 10) wq := hd ⟨10, .data⟩ (by simp) rfl
          dsimp only at hx hblk
          refine ⟨[.bool b12, .slice A12 n12 c12, .slice A'12 n'12 c'12], fun w' hk => ⟨b12, A12, n12, c12, A'12, n'12, c'12, rfl, h12.keep hk⟩, fun K hK => ?_⟩
          have hc0 : wq.cell? ⟨g, 0, none⟩ = some (.bool false) := hblk.cell 0
          have hc1 : wq.cell? ⟨g, 1, none⟩ = some (.slice none 0 0) := hblk.cell 1
          have hc2 : wq.cell? ⟨g, 2, none⟩ = some (.slice none 0 0) := hblk.cell 2
          have hf0 : wq.frozen? ⟨g, 0, none⟩ = false := hblk.frozen 0
          have hf1 : wq.frozen? ⟨g, 1, none⟩ = false := hblk.frozen 1
          have hf2 : wq.frozen? ⟨g, 2, none⟩ = false := hblk.frozen 2
          (try dsimp only)
          simp only [hx, dq10]
          go_simp
          have hz := hK.out undef
          simp only [hx, dq10] at hz
          exact hz⟩))
      clear cx1_2_0 cx1_2_1 cx1_2_2 cx1_2_3 cx1_2_4 cx1_2_5 lx1_2_0 lx1_2_1 lx1_2_2 lx1_2_3
      intro y9 w9 kq9 hbl9 lw9 how hrr hfl hds
      replace hTa := hTa.keep kq9
      replace hTb := hTb.keep kq9
      replace hQx := hQx.keep kq9
      replace hQy := hQy.keep kq9
      replace h4 := h4.keep kq9
      replace h5 := h5.keep kq9
      replace h'5 := h'5.keep kq9
      replace h6 := h6.keep kq9
      replace h'6 := h'6.keep kq9
      replace h7 := h7.keep kq9
      replace h'7 := h'7.keep kq9
      obtain ⟨_, z9_0, ez, _⟩ := how _ (List.Mem.head _)
      obtain rfl := ez (by simp)
      dsimp only at z9_0
      obtain ⟨_, z9_1, ez, _⟩ := how _ (List.Mem.tail _ (List.Mem.head _))
      obtain rfl := ez (by simp)
      dsimp only at z9_1
      obtain ⟨_, z9_2, ez, _⟩ := how _ (List.Mem.tail _ (List.Mem.tail _ (List.Mem.head _)))
      obtain rfl := ez (by simp)
      dsimp only at z9_2
      obtain ⟨_, z9_3, ez, _⟩ := how _ (List.Mem.tail _ (List.Mem.tail _ (List.Mem.tail _ (List.Mem.head _))))
      obtain rfl := ez (by simp)
      dsimp only at z9_3
      obtain ⟨_, z9_4, ez, _⟩ := how _ (List.Mem.tail _ (List.Mem.tail _ (List.Mem.tail _ (List.Mem.tail _ (List.Mem.head _)))))
      obtain rfl := ez (by simp)
      dsimp only at z9_4
      obtain ⟨_, z9_5, ez, _⟩ := how _ (List.Mem.tail _ (List.Mem.tail _ (List.Mem.tail _ (List.Mem.tail _ (List.Mem.tail _ (List.Mem.head _))))))
      obtain rfl := ez (by simp)
      dsimp only at z9_5
      obtain ⟨_, z9_6, ez, _⟩ := how _ (List.Mem.tail _ (List.Mem.tail _ (List.Mem.tail _ (List.Mem.tail _ (List.Mem.tail _ (List.Mem.tail _ (List.Mem.head _)))))))
      obtain rfl := ez (by simp)
      dsimp only at z9_6
      obtain ⟨_, z9_7, ez, _⟩ := how _ (List.Mem.tail _ (List.Mem.tail _ (List.Mem.tail _ (List.Mem.tail _ (List.Mem.tail _ (List.Mem.tail _ (List.Mem.tail _ (List.Mem.head _))))))))
      obtain rfl := ez (by simp)
      dsimp only at z9_7
      obtain ⟨_, z9_8, ez, _⟩ := how _ (List.Mem.tail _ (List.Mem.tail _ (List.Mem.tail _ (List.Mem.tail _ (List.Mem.tail _ (List.Mem.tail _ (List.Mem.tail _ (List.Mem.tail _ (List.Mem.head _)))))))))
      obtain rfl := ez (by simp)
      dsimp only at z9_8
      obtain ⟨g15_9, _, eg15_9, Gg15_9, xg15_9, ⟨b12, A12, n12, c12, A'12, n'12, c'12, rfl, h12⟩⟩ := hfl _ (List.Mem.head _)
      dsimp only at eg15_9 Gg15_9 xg15_9
      have lgg15_9 : g15_9 < w9.heap.size := xg15_9.lt
      (try dsimp only)
      simp only [eg15_9]
      clear hrr hfl how hds eg15_9
      clear x1_0 x1_1 x1_2 x2_0 x3_0 x5_0 x6_0 x7_0 x8_0
      have bw9 : Below w.heap.size w w9 := bw8.trans hbl9
      clear bw8
      have cz9_7_0 : w9.cell? ⟨w6.heap.size, 0, none⟩ = some (.bool b6) := z9_7.cell 0
      have cz9_7_1 : w9.cell? ⟨w6.heap.size, 1, none⟩ = some (.slice A6 n6 c6) := z9_7.cell 1
      have cz9_7_2 : w9.cell? ⟨w6.heap.size, 2, none⟩ = some (.slice A'6 n'6 c'6) := z9_7.cell 2
      have cz9_7_3 : w9.cell? ⟨w6.heap.size, 3, none⟩ = some (.bool d6) := z9_7.cell 3
      have cz9_7_4 : w9.cell? ⟨w6.heap.size, 4, none⟩ = some (.slice D6 m6 e6) := z9_7.cell 4
      have cz9_7_5 : w9.cell? ⟨w6.heap.size, 5, none⟩ = some (.slice D'6 m'6 e'6) := z9_7.cell 5
      have lz9_7_0 : w6.heap.size < w9.heap.size := by have := z9_7.lt; omega
      have lz9_7_1 : w6.heap.size < w9.heap.size + 1 := by have := z9_7.lt; omega
      have lz9_7_2 : w6.heap.size < w9.heap.size + 2 := by have := z9_7.lt; omega
      have lz9_7_3 : w6.heap.size < w9.heap.size + 3 := by have := z9_7.lt; omega
      go_wp2_with fail
      refine wp_region_lin (B := w.heap.size) (fr := fun xf => ⟨List.toArray (.agg #[.bool b, .slice A n c, .slice D m e, .bool x] :: .agg #[.bool b', .slice A' n' c', .slice D' m' e', .bool x'] :: .agg #[.bool b'', .slice A'' n'' c'', .slice D'' m'' e'', .bool b3, .slice A3 n3 c3, .slice D3 m3 e3] :: .pointer (some ⟨w.heap.size, 0, none⟩) :: .pointer (some ⟨w.heap.size + 1, 0, none⟩) :: .pointer (some ⟨w.heap.size + 1 + 1, 0, none⟩) :: .bool false :: .pointer (some ⟨w4.heap.size, 0, none⟩) :: .nilIface :: .pointer (some ⟨w5.heap.size, 0, none⟩) :: .nilIface :: .pointer (some ⟨w6.heap.size, 0, none⟩) :: .nilIface :: .pointer (some ⟨w7.heap.size, 0, none⟩) :: .nilIface :: .pointer (some ⟨g15_9, 0, none⟩) :: xf 11 :: .bool true :: .bool false :: .bool false :: .pointer (some ⟨w.heap.size, 0, none⟩) :: .agg #[.bool b, .slice A n c, .slice D m e] :: .pointer (some ⟨w.heap.size + 1, 0, none⟩) :: .agg #[.bool b', .slice A' n' c', .slice D' m' e'] :: .pointer (some ⟨w.heap.size + 1 + 1, 0, none⟩) :: .agg #[.bool b'', .slice A'' n'' c'', .slice D'' m'' e''] :: .pointer (some ⟨w.heap.size + 1 + 1, 3, none⟩) :: .agg #[.bool b3, .slice A3 n3 c3, .slice D3 m3 e3] :: .slice (some ⟨w1.heap.size, 0, none⟩) 4 4 :: .bool true :: .bool false :: .bool false :: .bool false :: .agg #[.bool b, .slice A n c, .slice D m e, .bool x] :: .agg #[.bool b', .slice A' n' c', .slice D' m' e', .bool x'] :: .slice (some ⟨w2.heap.size, 0, none⟩) 2 2 :: .bool true :: .bool false :: .bool false :: undef :: .tuple #[.agg #[.bool b4, .slice A4 n4 c4, .slice A'4 n'4 c'4, .bool x4], .nilIface] :: .agg #[.bool b, .slice A n c, .slice D m e, .bool x] :: .agg #[.bool b', .slice A' n' c', .slice D' m' e', .bool x'] :: .tuple #[.agg #[.bool b4, .slice A4 n4 c4, .slice A'4 n'4 c'4, .bool x4], .nilIface] :: .agg #[.bool b4, .slice A4 n4 c4, .slice A'4 n'4 c'4, .bool x4] :: .nilIface :: .tuple #[.agg #[.bool b5, .slice A5 n5 c5, .slice A'5 n'5 c'5, .bool d5, .slice D5 m5 e5, .slice D'5 m'5 e'5], .nilIface] :: .agg #[.bool b4, .slice A4 n4 c4, .slice A'4 n'4 c'4, .bool x4] :: .agg #[.bool b'', .slice A'' n'' c'', .slice D'' m'' e'', .bool b3, .slice A3 n3 c3, .slice D3 m3 e3] :: .tuple #[.agg #[.bool b5, .slice A5 n5 c5, .slice A'5 n'5 c'5, .bool d5, .slice D5 m5 e5, .slice D'5 m'5 e'5], .nilIface] :: .agg #[.bool b5, .slice A5 n5 c5, .slice A'5 n'5 c'5, .bool d5, .slice D5 m5 e5, .slice D'5 m'5 e'5] :: .nilIface :: .tuple #[.agg #[.bool b6, .slice A6 n6 c6, .slice A'6 n'6 c'6, .bool d6, .slice D6 m6 e6, .slice D'6 m'6 e'6], .nilIface] :: .agg #[.bool b, .slice A n c, .slice D m e, .bool x] :: .agg #[.bool b'', .slice A'' n'' c'', .slice D'' m'' e'', .bool b3, .slice A3 n3 c3, .slice D3 m3 e3] :: .tuple #[.agg #[.bool b6, .slice A6 n6 c6, .slice A'6 n'6 c'6, .bool d6, .slice D6 m6 e6, .slice D'6 m'6 e'6], .nilIface] :: .agg #[.bool b6, .slice A6 n6 c6, .slice A'6 n'6 c'6, .bool d6, .slice D6 m6 e6, .slice D'6 m'6 e'6] :: .nilIface :: .tuple #[.agg #[.bool b7, .slice A7 n7 c7, .slice A'7 n'7 c'7, .bool d7, .slice D7 m7 e7, .slice D'7 m'7 e'7], .nilIface] :: .agg #[.bool b', .slice A' n' c', .slice D' m' e', .bool x'] :: .agg #[.bool b6, .slice A6 n6 c6, .slice A'6 n'6 c'6, .bool d6, .slice D6 m6 e6, .slice D'6 m'6 e'6] :: .tuple #[.agg #[.bool b7, .slice A7 n7 c7, .slice A'7 n'7 c'7, .bool d7, .slice D7 m7 e7, .slice D'7 m'7 e'7], .nilIface] :: .agg #[.bool b7, .slice A7 n7 c7, .slice A'7 n'7 c'7, .bool d7, .slice D7 m7 e7, .slice D'7 m'7 e'7] :: .nilIface :: .nilIface :: .bool false :: .bool false :: .nilIface :: .bool false :: .bool false :: .bool false :: .nilIface :: .bool false :: .bool false :: .bool false :: .nilIface :: .bool false :: .bool false :: y9 0 :: y9 1 :: y9 2 :: y9 3 :: y9 4 :: y9 5 :: y9 6 :: y9 7 :: y9 8 :: y9 9 :: y9 10 :: xf 0 :: xf 1 :: xf 2 :: xf 3 :: xf 4 :: xf 5 :: xf 6 :: xf 7 :: xf 8 :: xf 9 :: xf 10 :: undef :: undef :: undef :: undef :: undef :: undef :: undef :: undef :: undef :: undef :: undef :: undef :: undef :: undef :: undef :: undef :: undef :: undef :: undef :: undef :: []), []⟩) (R := fun i => List.getD ((PEq (.pointer (some ⟨w6.heap.size, 0, none⟩))) :: (PEq (.agg #[.bool b6, .slice A6 n6 c6, .slice A'6 n'6 c'6])) :: (PEq (.pointer (some ⟨w6.heap.size, 0, none⟩))) :: (PEq (.agg #[.bool b6, .slice A6 n6 c6, .slice A'6 n'6 c'6])) :: (VQ (((tapply (⟨ra.q, x⟩) (rx.q) (ry.q)).1) * ((tapply (⟨ra.q, x⟩) (rx.q) (ry.q)).1)) ((8 * (6) + 9 + (6) + (6)) + (8 * (6) + 9 + (6) + (6)))) :: (PEq (.pointer (some ⟨w6.heap.size, 3, none⟩))) :: (PEq (.agg #[.bool d6, .slice D6 m6 e6, .slice D'6 m'6 e'6])) :: (PEq (.pointer (some ⟨w6.heap.size, 3, none⟩))) :: (PEq (.agg #[.bool d6, .slice D6 m6 e6, .slice D'6 m'6 e'6])) :: (VQ (((tapply (⟨ra.q, x⟩) (rx.q) (ry.q)).2) * ((tapply (⟨ra.q, x⟩) (rx.q) (ry.q)).2)) ((8 * (6) + 9 + (6) + (6)) + (8 * (6) + 9 + (6) + (6)))) :: (VQ ((((tapply (⟨ra.q, x⟩) (rx.q) (ry.q)).1) * ((tapply (⟨ra.q, x⟩) (rx.q) (ry.q)).1)) + (((tapply (⟨ra.q, x⟩) (rx.q) (ry.q)).2) * ((tapply (⟨ra.q, x⟩) (rx.q) (ry.q)).2))) (((8 * (6) + 9 + (6) + (6)) + (8 * (6) + 9 + (6) + (6))) + ((8 * (6) + 9 + (6) + (6)) + (8 * (6) + 9 + (6) + (6))) + 1)) :: PAny :: PAny :: []) i (fun _ _ => True)) (es := [⟨11, 12, 24, #[.bool false, .slice none 0 0, .slice none 0 0], CQ ((((tapply (⟨ra.q, x⟩) (rx.q) (ry.q)).1) * ((tapply (⟨ra.q, x⟩) (rx.q) (ry.q)).1)) + (((tapply (⟨ra.q, x⟩) (rx.q) (ry.q)).2) * ((tapply (⟨ra.q, x⟩) (rx.q) (ry.q)).2))) (((8 * (6) + 9 + (6) + (6)) + (8 * (6) + 9 + (6) + (6))) + ((8 * (6) + 9 + (6) + (6)) + (8 * (6) + 9 + (6) + (6))) + 1)⟩]) (ow := [⟨w.heap.size, 13, 0, 26, #[.bool b, .slice A n c, .slice D m e, .bool x], CAny⟩, ⟨w.heap.size + 1, 13, 0, 26, #[.bool b', .slice A' n' c', .slice D' m' e', .bool x'], CAny⟩, ⟨w.heap.size + 1 + 1, 13, 0, 28, #[.bool b'', .slice A'' n'' c'', .slice D'' m'' e'', .bool b3, .slice A3 n3 c3, .slice D3 m3 e3], CAny⟩, ⟨w1.heap.size, 13, 0, 24, #[.bool b, .slice A n c, .slice D m e, .bool b', .slice A' n' c', .slice D' m' e', .bool b'', .slice A'' n'' c'', .slice D'' m'' e'', .bool b3, .slice A3 n3 c3, .slice D3 m3 e3], CAny⟩, ⟨w2.heap.size, 13, 0, 26, #[.bool b, .slice A n c, .slice D m e, .bool x, .bool b', .slice A' n' c', .slice D' m' e', .bool x'], CAny⟩, ⟨w4.heap.size, 13, 0, 26, #[.bool b4, .slice A4 n4 c4, .slice A'4 n'4 c'4, .bool x4], CAny⟩, ⟨w5.heap.size, 13, 0, 28, #[.bool b5, .slice A5 n5 c5, .slice A'5 n'5 c'5, .bool d5, .slice D5 m5 e5, .slice D'5 m'5 e'5], CAny⟩, ⟨w6.heap.size, 13, 0, 28, #[.bool b6, .slice A6 n6 c6, .slice A'6 n'6 c'6, .bool d6, .slice D6 m6 e6, .slice D'6 m'6 e'6], CAny⟩, ⟨w7.heap.size, 13, 0, 28, #[.bool b7, .slice A7 n7 c7, .slice A'7 n'7 c'7, .bool d7, .slice D7 m7 e7, .slice D'7 m'7 e'7], CAny⟩, ⟨g15_9, 13, 0, 24, #[.bool b12, .slice A12 n12 c12, .slice A'12 n'12 c'12], CAny⟩]) (x0 := (fun _ => undef)) (by kernel_rfl)
        (each_of ⟨fun _ _ => rfl, fun _ _ => rfl, fun _ _ => rfl, fun _ _ => rfl, fun _ _ => rfl, fun _ _ => rfl, fun _ _ => rfl, fun _ _ => rfl, fun _ _ => rfl, fun _ _ => rfl, fun _ _ => rfl, fun _ _ => rfl, fun _ _ => rfl, trivial⟩) (each_of (acyc_from _ 0 (by kernel_rfl))) (AllStab.get _ ⟨stEq _, stEq _, stEq _, stEq _, stQ _ _, stEq _, stEq _, stEq _, stEq _, stQ _ _, stQ _ _, stAny, stAny, trivial⟩)
        (List.forall_mem_cons.2 ⟨scQ _ _, fun _ h => nomatch h⟩) (List.forall_mem_cons.2 ⟨scAny, List.forall_mem_cons.2 ⟨scAny, List.forall_mem_cons.2 ⟨scAny, List.forall_mem_cons.2 ⟨scAny, List.forall_mem_cons.2 ⟨scAny, List.forall_mem_cons.2 ⟨scAny, List.forall_mem_cons.2 ⟨scAny, List.forall_mem_cons.2 ⟨scAny, List.forall_mem_cons.2 ⟨scAny, List.forall_mem_cons.2 ⟨scAny, fun _ h => nomatch h⟩⟩⟩⟩⟩⟩⟩⟩⟩⟩) (List.forall_mem_cons.2 ⟨⟨by simp, by simp⟩, fun _ h => nomatch h⟩) bw9.size
        (List.forall_mem_cons.2 ⟨⟨z9_0, by show w.heap.size ≤ w.heap.size; omega⟩, List.forall_mem_cons.2 ⟨⟨z9_1, by show w.heap.size ≤ w.heap.size + 1; omega⟩, List.forall_mem_cons.2 ⟨⟨z9_2, by show w.heap.size ≤ w.heap.size + 1 + 1; omega⟩, List.forall_mem_cons.2 ⟨⟨z9_3, by show w.heap.size ≤ w1.heap.size; omega⟩, List.forall_mem_cons.2 ⟨⟨z9_4, by show w.heap.size ≤ w2.heap.size; omega⟩, List.forall_mem_cons.2 ⟨⟨z9_5, by show w.heap.size ≤ w4.heap.size; omega⟩, List.forall_mem_cons.2 ⟨⟨z9_6, by show w.heap.size ≤ w5.heap.size; omega⟩, List.forall_mem_cons.2 ⟨⟨z9_7, by show w.heap.size ≤ w6.heap.size; omega⟩, List.forall_mem_cons.2 ⟨⟨z9_8, by show w.heap.size ≤ w7.heap.size; omega⟩, List.forall_mem_cons.2 ⟨⟨xg15_9, by show w.heap.size ≤ g15_9; omega⟩, fun _ h => nomatch h⟩⟩⟩⟩⟩⟩⟩⟩⟩⟩) (ownDist (by simp <;> omega))
        (each_of ⟨?_, ?_, ?_, ?_, ?_, ?_, ?_, ?_, ?_, ?_, ?_, ?_, ?_, trivial⟩) ?_
      · exact .inl ⟨by simp, by simp, fun xf wq hk hbl hd K hK => by
          (try dsimp only)
          go_simp
          exact hK.out (.pointer (some ⟨w6.heap.size, 0, none⟩)) _ rfl (brefl _)⟩
      · exact .inl ⟨by simp, by simp, fun xf wq hk hbl hd K hK => by
          have dq0 : xf 0 = .pointer (some ⟨w6.heap.size, 0, none⟩) := hd ⟨0, .data⟩ (by simp) rfl
          have y : Blk wq (w6.heap.size) 28 #[.bool b6, .slice A6 n6 c6, .slice A'6 n'6 c'6, .bool d6, .slice D6 m6 e6, .slice D'6 m'6 e'6] := hbl _ (List.Mem.tail _ (List.Mem.tail _ (List.Mem.tail _ (List.Mem.tail _ (List.Mem.tail _ (List.Mem.tail _ (List.Mem.tail _ (List.Mem.head _)))))))) (by simp [Region.binds])
          have hcl0 : wq.cell? ⟨w6.heap.size, 0, none⟩ = some (.bool b6) := y.cell 0
          have hcl1 : wq.cell? ⟨w6.heap.size, 1, none⟩ = some (.slice A6 n6 c6) := y.cell 1
          have hcl2 : wq.cell? ⟨w6.heap.size, 2, none⟩ = some (.slice A'6 n'6 c'6) := y.cell 2
          have hcl3 : wq.cell? ⟨w6.heap.size, 3, none⟩ = some (.bool d6) := y.cell 3
          have hcl4 : wq.cell? ⟨w6.heap.size, 4, none⟩ = some (.slice D6 m6 e6) := y.cell 4
          have hcl5 : wq.cell? ⟨w6.heap.size, 5, none⟩ = some (.slice D'6 m'6 e'6) := y.cell 5
          (try dsimp only); (try simp only [dq0])
          go_simp
          have hz := hK.out (.agg #[.bool b6, .slice A6 n6 c6, .slice A'6 n'6 c'6]) _ rfl (brefl _)
          simp only [dq0] at hz
          exact hz⟩
      · exact .inl ⟨by simp, by simp, fun xf wq hk hbl hd K hK => by
          (try dsimp only)
          go_simp
          exact hK.out (.pointer (some ⟨w6.heap.size, 0, none⟩)) _ rfl (brefl _)⟩
      · exact .inl ⟨by simp, by simp, fun xf wq hk hbl hd K hK => by
          have dq2 : xf 2 = .pointer (some ⟨w6.heap.size, 0, none⟩) := hd ⟨2, .data⟩ (by simp) rfl
          have y : Blk wq (w6.heap.size) 28 #[.bool b6, .slice A6 n6 c6, .slice A'6 n'6 c'6, .bool d6, .slice D6 m6 e6, .slice D'6 m'6 e'6] := hbl _ (List.Mem.tail _ (List.Mem.tail _ (List.Mem.tail _ (List.Mem.tail _ (List.Mem.tail _ (List.Mem.tail _ (List.Mem.tail _ (List.Mem.head _)))))))) (by simp [Region.binds])
          have hcl0 : wq.cell? ⟨w6.heap.size, 0, none⟩ = some (.bool b6) := y.cell 0
          have hcl1 : wq.cell? ⟨w6.heap.size, 1, none⟩ = some (.slice A6 n6 c6) := y.cell 1
          have hcl2 : wq.cell? ⟨w6.heap.size, 2, none⟩ = some (.slice A'6 n'6 c'6) := y.cell 2
          have hcl3 : wq.cell? ⟨w6.heap.size, 3, none⟩ = some (.bool d6) := y.cell 3
          have hcl4 : wq.cell? ⟨w6.heap.size, 4, none⟩ = some (.slice D6 m6 e6) := y.cell 4
          have hcl5 : wq.cell? ⟨w6.heap.size, 5, none⟩ = some (.slice D'6 m'6 e'6) := y.cell 5
          (try dsimp only); (try simp only [dq2])
          go_simp
          have hz := hK.out (.agg #[.bool b6, .slice A6 n6 c6, .slice A'6 n'6 c'6]) _ rfl (brefl _)
          simp only [dq2] at hz
          exact hz⟩
      · exact .inl ⟨by simp, by simp, fun xf wq hk hbl hd K hK => by
          have dq1 : xf 1 = .agg #[.bool b6, .slice A6 n6 c6, .slice A'6 n'6 c'6] := hd ⟨1, .data⟩ (by simp) rfl
          have dq3 : xf 3 = .agg #[.bool b6, .slice A6 n6 c6, .slice A'6 n'6 c'6] := hd ⟨3, .data⟩ (by simp) rfl
          (try dsimp only); (try simp only [dq1, dq3])
          go_simp
          go_at_call 12
          (with_reducible refine (f_mul _ b6 A6 n6 c6 A'6 n'6 c'6 ((tapply (⟨ra.q, x⟩) (rx.q) (ry.q)).1) (8 * (6) + 9 + (6) + (6)) ?_ b6 A6 n6 c6 A'6 n'6 c'6 ((tapply (⟨ra.q, x⟩) (rx.q) (ry.q)).1) (8 * (6) + 9 + (6) + (6)) ?_ ?_ ?_ ?_ ?_).mono ?_); (exact (h6.keep hk).qz); (exact (h6.keep hk).qz); (first | omega | decide | assumption); (first | omega | decide | assumption); (first | omega | decide | assumption); (first | omega | decide | assumption); rintro e wr ⟨b15, A15, n15, c15, A'15, n'15, c'15, rfl, h15, hbr⟩
          have hz := hK.out _ _ ⟨b15, A15, n15, c15, A'15, n'15, c'15, rfl, h15⟩ hbr
          simp only [dq1, dq3] at hz
          exact hz⟩
      · exact .inl ⟨by simp, by simp, fun xf wq hk hbl hd K hK => by
          (try dsimp only)
          go_simp
          exact hK.out (.pointer (some ⟨w6.heap.size, 3, none⟩)) _ rfl (brefl _)⟩
      · exact .inl ⟨by simp, by simp, fun xf wq hk hbl hd K hK => by
          have dq5 : xf 5 = .pointer (some ⟨w6.heap.size, 3, none⟩) := hd ⟨5, .data⟩ (by simp) rfl
          have y : Blk wq (w6.heap.size) 28 #[.bool b6, .slice A6 n6 c6, .slice A'6 n'6 c'6, .bool d6, .slice D6 m6 e6, .slice D'6 m'6 e'6] := hbl _ (List.Mem.tail _ (List.Mem.tail _ (List.Mem.tail _ (List.Mem.tail _ (List.Mem.tail _ (List.Mem.tail _ (List.Mem.tail _ (List.Mem.head _)))))))) (by simp [Region.binds])
          have hcl0 : wq.cell? ⟨w6.heap.size, 0, none⟩ = some (.bool b6) := y.cell 0
          have hcl1 : wq.cell? ⟨w6.heap.size, 1, none⟩ = some (.slice A6 n6 c6) := y.cell 1
          have hcl2 : wq.cell? ⟨w6.heap.size, 2, none⟩ = some (.slice A'6 n'6 c'6) := y.cell 2
          have hcl3 : wq.cell? ⟨w6.heap.size, 3, none⟩ = some (.bool d6) := y.cell 3
          have hcl4 : wq.cell? ⟨w6.heap.size, 4, none⟩ = some (.slice D6 m6 e6) := y.cell 4
          have hcl5 : wq.cell? ⟨w6.heap.size, 5, none⟩ = some (.slice D'6 m'6 e'6) := y.cell 5
          (try dsimp only); (try simp only [dq5])
          go_simp
          have hz := hK.out (.agg #[.bool d6, .slice D6 m6 e6, .slice D'6 m'6 e'6]) _ rfl (brefl _)
          simp only [dq5] at hz
          exact hz⟩
      · exact .inl ⟨by simp, by simp, fun xf wq hk hbl hd K hK => by
          (try dsimp only)
          go_simp
          exact hK.out (.pointer (some ⟨w6.heap.size, 3, none⟩)) _ rfl (brefl _)⟩
      · exact .inl ⟨by simp, by simp, fun xf wq hk hbl hd K hK => by
          have dq7 : xf 7 = .pointer (some ⟨w6.heap.size, 3, none⟩) := hd ⟨7, .data⟩ (by simp) rfl
          have y : Blk wq (w6.heap.size) 28 #[.bool b6, .slice A6 n6 c6, .slice A'6 n'6 c'6, .bool d6, .slice D6 m6 e6, .slice D'6 m'6 e'6] := hbl _ (List.Mem.tail _ (List.Mem.tail _ (List.Mem.tail _ (List.Mem.tail _ (List.Mem.tail _ (List.Mem.tail _ (List.Mem.tail _ (List.Mem.head _)))))))) (by simp [Region.binds])
          have hcl0 : wq.cell? ⟨w6.heap.size, 0, none⟩ = some (.bool b6) := y.cell 0
          have hcl1 : wq.cell? ⟨w6.heap.size, 1, none⟩ = some (.slice A6 n6 c6) := y.cell 1
          have hcl2 : wq.cell? ⟨w6.heap.size, 2, none⟩ = some (.slice A'6 n'6 c'6) := y.cell 2
          have hcl3 : wq.cell? ⟨w6.heap.size, 3, none⟩ = some (.bool d6) := y.cell 3
          have hcl4 : wq.cell? ⟨w6.heap.size, 4, none⟩ = some (.slice D6 m6 e6) := y.cell 4
          have hcl5 : wq.cell? ⟨w6.heap.size, 5, none⟩ = some (.slice D'6 m'6 e'6) := y.cell 5
          (try dsimp only); (try simp only [dq7])
          go_simp
          have hz := hK.out (.agg #[.bool d6, .slice D6 m6 e6, .slice D'6 m'6 e'6]) _ rfl (brefl _)
          simp only [dq7] at hz
          exact hz⟩
      · exact .inl ⟨by simp, by simp, fun xf wq hk hbl hd K hK => by
          have dq6 : xf 6 = .agg #[.bool d6, .slice D6 m6 e6, .slice D'6 m'6 e'6] := hd ⟨6, .data⟩ (by simp) rfl
          have dq8 : xf 8 = .agg #[.bool d6, .slice D6 m6 e6, .slice D'6 m'6 e'6] := hd ⟨8, .data⟩ (by simp) rfl
          (try dsimp only); (try simp only [dq6, dq8])
          go_simp
          go_at_call 12
          (with_reducible refine (f_mul _ d6 D6 m6 e6 D'6 m'6 e'6 ((tapply (⟨ra.q, x⟩) (rx.q) (ry.q)).2) (8 * (6) + 9 + (6) + (6)) ?_ d6 D6 m6 e6 D'6 m'6 e'6 ((tapply (⟨ra.q, x⟩) (rx.q) (ry.q)).2) (8 * (6) + 9 + (6) + (6)) ?_ ?_ ?_ ?_ ?_).mono ?_); (exact (h'6.keep hk).qz); (exact (h'6.keep hk).qz); (first | omega | decide | assumption); (first | omega | decide | assumption); (first | omega | decide | assumption); (first | omega | decide | assumption); rintro e wr ⟨b16, A16, n16, c16, A'16, n'16, c'16, rfl, h16, hbr⟩
          have hz := hK.out _ _ ⟨b16, A16, n16, c16, A'16, n'16, c'16, rfl, h16⟩ hbr
          simp only [dq6, dq8] at hz
          exact hz⟩
      · exact .inl ⟨by simp, by simp, fun xf wq hk hbl hd K hK => by
          obtain ⟨b15, A15, n15, c15, A'15, n'15, c'15, dq4, h15⟩ : VQ (((tapply (⟨ra.q, x⟩) (rx.q) (ry.q)).1) * ((tapply (⟨ra.q, x⟩) (rx.q) (ry.q)).1)) ((8 * (6) + 9 + (6) + (6)) + (8 * (6) + 9 + (6) + (6))) (xf 4) wq := hd ⟨4, .data⟩ (by simp) rfl
          obtain ⟨b16, A16, n16, c16, A'16, n'16, c'16, dq9, h16⟩ : VQ (((tapply (⟨ra.q, x⟩) (rx.q) (ry.q)).2) * ((tapply (⟨ra.q, x⟩) (rx.q) (ry.q)).2)) ((8 * (6) + 9 + (6) + (6)) + (8 * (6) + 9 + (6) + (6))) (xf 9) wq := hd ⟨9, .data⟩ (by simp) rfl
          (try dsimp only); (try simp only [dq4, dq9])
          go_simp
          go_at_call 11
          (with_reducible refine (f_add _ b15 A15 n15 c15 A'15 n'15 c'15 (((tapply (⟨ra.q, x⟩) (rx.q) (ry.q)).1) * ((tapply (⟨ra.q, x⟩) (rx.q) (ry.q)).1)) ((8 * (6) + 9 + (6) + (6)) + (8 * (6) + 9 + (6) + (6))) ?_ b16 A16 n16 c16 A'16 n'16 c'16 (((tapply (⟨ra.q, x⟩) (rx.q) (ry.q)).2) * ((tapply (⟨ra.q, x⟩) (rx.q) (ry.q)).2)) ((8 * (6) + 9 + (6) + (6)) + (8 * (6) + 9 + (6) + (6))) ?_ ?_ ?_ ?_ ?_).mono ?_); (exact h15.qz); (exact h16.qz); (first | omega | decide | assumption); (first | omega | decide | assumption); (first | omega | decide | assumption); (first | omega | decide | assumption); rintro e wr ⟨b17, A17, n17, c17, A'17, n'17, c'17, rfl, h17, hbr⟩
          have hz := hK.out _ _ ⟨b17, A17, n17, c17, A'17, n'17, c'17, rfl, h17⟩ hbr
          simp only [dq4, dq9] at hz
          exact hz⟩
      · exact .inr (.inl ⟨⟨11, 12, 24, #[.bool false, .slice none 0 0, .slice none 0 0], CQ ((((tapply (⟨ra.q, x⟩) (rx.q) (ry.q)).1) * ((tapply (⟨ra.q, x⟩) (rx.q) (ry.q)).1)) + (((tapply (⟨ra.q, x⟩) (rx.q) (ry.q)).2) * ((tapply (⟨ra.q, x⟩) (rx.q) (ry.q)).2))) (((8 * (6) + 9 + (6) + (6)) + (8 * (6) + 9 + (6) + (6))) + ((8 * (6) + 9 + (6) + (6)) + (8 * (6) + 9 + (6) + (6))) + 1)⟩, by simp, rfl, by simp, by simp, by simp, fun _ _ => True.intro, fun xf wq K hK => by
          (try dsimp only)
          go_simp
          exact hK.out⟩)
      · exact .inr (.inr (.inl ⟨⟨11, 12, 24, #[.bool false, .slice none 0 0, .slice none 0 0], CQ ((((tapply (⟨ra.q, x⟩) (rx.q) (ry.q)).1) * ((tapply (⟨ra.q, x⟩) (rx.q) (ry.q)).1)) + (((tapply (⟨ra.q, x⟩) (rx.q) (ry.q)).2) * ((tapply (⟨ra.q, x⟩) (rx.q) (ry.q)).2))) (((8 * (6) + 9 + (6) + (6)) + (8 * (6) + 9 + (6) + (6))) + ((8 * (6) + 9 + (6) + (6)) + (8 * (6) + 9 + (6) + (6))) + 1)⟩, by simp, rfl, by simp, by simp, by simp, by simp, (show KT 24 = false by decide), fun _ _ => True.intro, ⟨⟨11, .data⟩, by simp, rfl, rfl⟩, fun xf wq g hx hblk hd => by
          obtain ⟨b17, A17, n17, c17, A'17, n'17, c'17, dq10, h17⟩ : VQ ((((tapply (⟨ra.q, x⟩) (rx.q) (ry.q)).1) * ((tapply (⟨ra.q, x⟩) (rx.q) (ry.q)).1)) + (((tapply (⟨ra.q, x⟩) (rx.q) (ry.q)).2) * ((tapply (⟨ra.q, x⟩) (rx.q) (ry.q)).2))) (((8 * (6) + 9 + (6) + (6)) + (8 * (6) + 9 + (6) + (6))) + ((8 * (6) + 9 + (6) + (6)) + (8 * (6) + 9 + (6) + (6))) + 1) (xf 10) wq := hd ⟨10, .data⟩ (by simp) rfl
          dsimp only at hx hblk
          refine ⟨[.bool b17, .slice A17 n17 c17, .slice A'17 n'17 c'17], fun w' hk => ⟨b17, A17, n17, c17, A'17, n'17, c'17, rfl, h17.keep hk⟩, fun K hK => ?_⟩
          have hc0 : wq.cell? ⟨g, 0, none⟩ = some (.bool false) := hblk.cell 0
          have hc1 : wq.cell? ⟨g, 1, none⟩ = some (.slice none 0 0) := hblk.cell 1
          have hc2 : wq.cell? ⟨g, 2, none⟩ = some (.slice none 0 0) := hblk.cell 2
          have hf0 : wq.frozen? ⟨g, 0, none⟩ = false := hblk.frozen 0
          have hf1 : wq.frozen? ⟨g, 1, none⟩ = false := hblk.frozen 1
          have hf2 : wq.frozen? ⟨g, 2, none⟩ = false := hblk.frozen 2
          (try dsimp only)
          simp only [hx, dq10]
          go_simp
          have hz := hK.out undef
          simp only [hx, dq10] at hz
          exact hz⟩))
      clear cz9_7_0 cz9_7_1 cz9_7_2 cz9_7_3 cz9_7_4 cz9_7_5 lz9_7_0 lz9_7_1 lz9_7_2 lz9_7_3
      intro y14 w14 kq14 hbl14 lw14 how hrr hfl hds
      replace hTa := hTa.keep kq14
      replace hTb := hTb.keep kq14
      replace hQx := hQx.keep kq14
      replace hQy := hQy.keep kq14
      replace h4 := h4.keep kq14
      replace h5 := h5.keep kq14
      replace h'5 := h'5.keep kq14
      replace h6 := h6.keep kq14
      replace h'6 := h'6.keep kq14
      replace h7 := h7.keep kq14
      replace h'7 := h'7.keep kq14
      replace h12 := h12.keep kq14
      obtain ⟨_, z14_0, ez, _⟩ := how _ (List.Mem.head _)
      obtain rfl := ez (by simp)
      dsimp only at z14_0
      obtain ⟨_, z14_1, ez, _⟩ := how _ (List.Mem.tail _ (List.Mem.head _))
      obtain rfl := ez (by simp)
      dsimp only at z14_1
      obtain ⟨_, z14_2, ez, _⟩ := how _ (List.Mem.tail _ (List.Mem.tail _ (List.Mem.head _)))
      obtain rfl := ez (by simp)
      dsimp only at z14_2
      obtain ⟨_, z14_3, ez, _⟩ := how _ (List.Mem.tail _ (List.Mem.tail _ (List.Mem.tail _ (List.Mem.head _))))
      obtain rfl := ez (by simp)
      dsimp only at z14_3
      obtain ⟨_, z14_4, ez, _⟩ := how _ (List.Mem.tail _ (List.Mem.tail _ (List.Mem.tail _ (List.Mem.tail _ (List.Mem.head _)))))
      obtain rfl := ez (by simp)
      dsimp only at z14_4
      obtain ⟨_, z14_5, ez, _⟩ := how _ (List.Mem.tail _ (List.Mem.tail _ (List.Mem.tail _ (List.Mem.tail _ (List.Mem.tail _ (List.Mem.head _))))))
      obtain rfl := ez (by simp)
      dsimp only at z14_5
      obtain ⟨_, z14_6, ez, _⟩ := how _ (List.Mem.tail _ (List.Mem.tail _ (List.Mem.tail _ (List.Mem.tail _ (List.Mem.tail _ (List.Mem.tail _ (List.Mem.head _)))))))
      obtain rfl := ez (by simp)
      dsimp only at z14_6
      obtain ⟨_, z14_7, ez, _⟩ := how _ (List.Mem.tail _ (List.Mem.tail _ (List.Mem.tail _ (List.Mem.tail _ (List.Mem.tail _ (List.Mem.tail _ (List.Mem.tail _ (List.Mem.head _))))))))
      obtain rfl := ez (by simp)
      dsimp only at z14_7
      obtain ⟨_, z14_8, ez, _⟩ := how _ (List.Mem.tail _ (List.Mem.tail _ (List.Mem.tail _ (List.Mem.tail _ (List.Mem.tail _ (List.Mem.tail _ (List.Mem.tail _ (List.Mem.tail _ (List.Mem.head _)))))))))
      obtain rfl := ez (by simp)
      dsimp only at z14_8
      obtain ⟨_, z14_9, ez, _⟩ := how _ (List.Mem.tail _ (List.Mem.tail _ (List.Mem.tail _ (List.Mem.tail _ (List.Mem.tail _ (List.Mem.tail _ (List.Mem.tail _ (List.Mem.tail _ (List.Mem.tail _ (List.Mem.head _))))))))))
      obtain rfl := ez (by simp)
      dsimp only at z14_9
      obtain ⟨g16_14, _, eg16_14, Gg16_14, xg16_14, ⟨b17, A17, n17, c17, A'17, n'17, c'17, rfl, h17⟩⟩ := hfl _ (List.Mem.head _)
      dsimp only at eg16_14 Gg16_14 xg16_14
      have lgg16_14 : g16_14 < w14.heap.size := xg16_14.lt
      (try dsimp only)
      simp only [eg16_14]
      clear hrr hfl how hds eg16_14
      clear z9_0 z9_1 z9_2 z9_3 z9_4 z9_5 z9_6 z9_7 z9_8 xg15_9
      have bw14 : Below w.heap.size w w14 := bw9.trans hbl14
      clear bw9
      have cz14_6_0 : w14.cell? ⟨w5.heap.size, 0, none⟩ = some (.bool b5) := z14_6.cell 0
      have cz14_6_1 : w14.cell? ⟨w5.heap.size, 1, none⟩ = some (.slice A5 n5 c5) := z14_6.cell 1
      have cz14_6_2 : w14.cell? ⟨w5.heap.size, 2, none⟩ = some (.slice A'5 n'5 c'5) := z14_6.cell 2
      have cz14_6_3 : w14.cell? ⟨w5.heap.size, 3, none⟩ = some (.bool d5) := z14_6.cell 3
      have cz14_6_4 : w14.cell? ⟨w5.heap.size, 4, none⟩ = some (.slice D5 m5 e5) := z14_6.cell 4
      have cz14_6_5 : w14.cell? ⟨w5.heap.size, 5, none⟩ = some (.slice D'5 m'5 e'5) := z14_6.cell 5
      have lz14_6_0 : w5.heap.size < w14.heap.size := by have := z14_6.lt; omega
      have lz14_6_1 : w5.heap.size < w14.heap.size + 1 := by have := z14_6.lt; omega
      have lz14_6_2 : w5.heap.size < w14.heap.size + 2 := by have := z14_6.lt; omega
      have lz14_6_3 : w5.heap.size < w14.heap.size + 3 := by have := z14_6.lt; omega
      have cz14_8_0 : w14.cell? ⟨w7.heap.size, 0, none⟩ = some (.bool b7) := z14_8.cell 0
      have cz14_8_1 : w14.cell? ⟨w7.heap.size, 1, none⟩ = some (.slice A7 n7 c7) := z14_8.cell 1
      have cz14_8_2 : w14.cell? ⟨w7.heap.size, 2, none⟩ = some (.slice A'7 n'7 c'7) := z14_8.cell 2
      have cz14_8_3 : w14.cell? ⟨w7.heap.size, 3, none⟩ = some (.bool d7) := z14_8.cell 3
      have cz14_8_4 : w14.cell? ⟨w7.heap.size, 4, none⟩ = some (.slice D7 m7 e7) := z14_8.cell 4
      have cz14_8_5 : w14.cell? ⟨w7.heap.size, 5, none⟩ = some (.slice D'7 m'7 e'7) := z14_8.cell 5
      have lz14_8_0 : w7.heap.size < w14.heap.size := by have := z14_8.lt; omega
      have lz14_8_1 : w7.heap.size < w14.heap.size + 1 := by have := z14_8.lt; omega
      have lz14_8_2 : w7.heap.size < w14.heap.size + 2 := by have := z14_8.lt; omega
      have lz14_8_3 : w7.heap.size < w14.heap.size + 3 := by have := z14_8.lt; omega
      go_wp2_with fail
      (with_reducible refine (f_cmp_eq _ b5 A5 n5 c5 A'5 n'5 c'5 ((tapply (tadd (⟨ra.q, x⟩) (⟨rb.q, x'⟩)) (rx.q) (ry.q)).1) (8 * (2 * (6) + 2 * (6) + 3) + 9 + (6) + (6)) ?_ b7 A7 n7 c7 A'7 n'7 c'7 ((tapply (⟨rb.q, x'⟩) ((tapply (⟨ra.q, x⟩) (rx.q) (ry.q)).1) ((tapply (⟨ra.q, x⟩) (rx.q) (ry.q)).2)).1) (8 * (6) + 9 + (8 * (6) + 9 + (6) + (6)) + (8 * (6) + 9 + (6) + (6))) ?_  ?_ ?_ ?_ ?_ ?_).mono ?_); (exact h5.qz); (exact h7.qz); (exact congrArg Prod.fst (tapply_add HOK.out.1 HOK.out.2 _ _)); (first | omega | decide | assumption); (first | omega | decide | assumption); (first | omega | decide | assumption); (first | omega | decide | assumption); rintro e w19 ⟨rfl, hb19⟩
      clear cz14_6_0 cz14_6_1 cz14_6_2 cz14_6_3 cz14_6_4 cz14_6_5 lz14_6_0 lz14_6_1 lz14_6_2 lz14_6_3 cz14_8_0 cz14_8_1 cz14_8_2 cz14_8_3 cz14_8_4 cz14_8_5 lz14_8_0 lz14_8_1 lz14_8_2 lz14_8_3
      have q19 : Below w14.heap.size w14 w19 := hb19
      replace hTa := hTa.belw q19
      replace hTb := hTb.belw q19
      replace hQx := hQx.belw q19
      replace hQy := hQy.belw q19
      replace h4 := h4.belw q19
      replace h5 := h5.belw q19
      replace h'5 := h'5.belw q19
      replace h6 := h6.belw q19
      replace h'6 := h'6.belw q19
      replace h7 := h7.belw q19
      replace h'7 := h'7.belw q19
      replace h12 := h12.belw q19
      replace h17 := h17.belw q19
      replace z14_0 : Blk w19 (w.heap.size) 26 #[.bool b, .slice A n c, .slice D m e, .bool x] := z14_0.below q19 z14_0.lt
      replace z14_1 : Blk w19 (w.heap.size + 1) 26 #[.bool b', .slice A' n' c', .slice D' m' e', .bool x'] := z14_1.below q19 z14_1.lt
      replace z14_2 : Blk w19 (w.heap.size + 1 + 1) 28 #[.bool b'', .slice A'' n'' c'', .slice D'' m'' e'', .bool b3, .slice A3 n3 c3, .slice D3 m3 e3] := z14_2.below q19 z14_2.lt
      replace z14_3 : Blk w19 (w1.heap.size) 24 #[.bool b, .slice A n c, .slice D m e, .bool b', .slice A' n' c', .slice D' m' e', .bool b'', .slice A'' n'' c'', .slice D'' m'' e'', .bool b3, .slice A3 n3 c3, .slice D3 m3 e3] := z14_3.below q19 z14_3.lt
      replace z14_4 : Blk w19 (w2.heap.size) 26 #[.bool b, .slice A n c, .slice D m e, .bool x, .bool b', .slice A' n' c', .slice D' m' e', .bool x'] := z14_4.below q19 z14_4.lt
      replace z14_5 : Blk w19 (w4.heap.size) 26 #[.bool b4, .slice A4 n4 c4, .slice A'4 n'4 c'4, .bool x4] := z14_5.below q19 z14_5.lt
      replace z14_6 : Blk w19 (w5.heap.size) 28 #[.bool b5, .slice A5 n5 c5, .slice A'5 n'5 c'5, .bool d5, .slice D5 m5 e5, .slice D'5 m'5 e'5] := z14_6.below q19 z14_6.lt
      replace z14_7 : Blk w19 (w6.heap.size) 28 #[.bool b6, .slice A6 n6 c6, .slice A'6 n'6 c'6, .bool d6, .slice D6 m6 e6, .slice D'6 m'6 e'6] := z14_7.below q19 z14_7.lt
      replace z14_8 : Blk w19 (w7.heap.size) 28 #[.bool b7, .slice A7 n7 c7, .slice A'7 n'7 c'7, .bool d7, .slice D7 m7 e7, .slice D'7 m'7 e'7] := z14_8.below q19 z14_8.lt
      replace z14_9 : Blk w19 (g15_9) 24 #[.bool b12, .slice A12 n12 c12, .slice A'12 n'12 c'12] := z14_9.below q19 z14_9.lt
      replace xg16_14 : Blk w19 (g16_14) 24 #[.bool b17, .slice A17 n17 c17, .slice A'17 n'17 c'17] := xg16_14.below q19 xg16_14.lt
      have bw19 : Below w.heap.size w w19 := bw14.trans (q19.mono bw14.size)
      have lw19 : w14.heap.size ≤ w19.heap.size := q19.size
      clear hb19 q19 bw14
      have cz14_6_0 : w19.cell? ⟨w5.heap.size, 0, none⟩ = some (.bool b5) := z14_6.cell 0
      have cz14_6_1 : w19.cell? ⟨w5.heap.size, 1, none⟩ = some (.slice A5 n5 c5) := z14_6.cell 1
      have cz14_6_2 : w19.cell? ⟨w5.heap.size, 2, none⟩ = some (.slice A'5 n'5 c'5) := z14_6.cell 2
      have cz14_6_3 : w19.cell? ⟨w5.heap.size, 3, none⟩ = some (.bool d5) := z14_6.cell 3
      have cz14_6_4 : w19.cell? ⟨w5.heap.size, 4, none⟩ = some (.slice D5 m5 e5) := z14_6.cell 4
      have cz14_6_5 : w19.cell? ⟨w5.heap.size, 5, none⟩ = some (.slice D'5 m'5 e'5) := z14_6.cell 5
      have lz14_6_0 : w5.heap.size < w19.heap.size := by have := z14_6.lt; omega
      have lz14_6_1 : w5.heap.size < w19.heap.size + 1 := by have := z14_6.lt; omega
      have lz14_6_2 : w5.heap.size < w19.heap.size + 2 := by have := z14_6.lt; omega
      have lz14_6_3 : w5.heap.size < w19.heap.size + 3 := by have := z14_6.lt; omega
      have cz14_8_0 : w19.cell? ⟨w7.heap.size, 0, none⟩ = some (.bool b7) := z14_8.cell 0
      have cz14_8_1 : w19.cell? ⟨w7.heap.size, 1, none⟩ = some (.slice A7 n7 c7) := z14_8.cell 1
      have cz14_8_2 : w19.cell? ⟨w7.heap.size, 2, none⟩ = some (.slice A'7 n'7 c'7) := z14_8.cell 2
      have cz14_8_3 : w19.cell? ⟨w7.heap.size, 3, none⟩ = some (.bool d7) := z14_8.cell 3
      have cz14_8_4 : w19.cell? ⟨w7.heap.size, 4, none⟩ = some (.slice D7 m7 e7) := z14_8.cell 4
      have cz14_8_5 : w19.cell? ⟨w7.heap.size, 5, none⟩ = some (.slice D'7 m'7 e'7) := z14_8.cell 5
      have lz14_8_0 : w7.heap.size < w19.heap.size := by have := z14_8.lt; omega
      have lz14_8_1 : w7.heap.size < w19.heap.size + 1 := by have := z14_8.lt; omega
      have lz14_8_2 : w7.heap.size < w19.heap.size + 2 := by have := z14_8.lt; omega
      have lz14_8_3 : w7.heap.size < w19.heap.size + 3 := by have := z14_8.lt; omega
      go_wp2_with fail
      (with_reducible refine (f_cmp_eq _ d5 D5 m5 e5 D'5 m'5 e'5 ((tapply (tadd (⟨ra.q, x⟩) (⟨rb.q, x'⟩)) (rx.q) (ry.q)).2) (8 * (2 * (6) + 2 * (6) + 3) + 9 + (6) + (6)) ?_ d7 D7 m7 e7 D'7 m'7 e'7 ((tapply (⟨rb.q, x'⟩) ((tapply (⟨ra.q, x⟩) (rx.q) (ry.q)).1) ((tapply (⟨ra.q, x⟩) (rx.q) (ry.q)).2)).2) (8 * (6) + 9 + (8 * (6) + 9 + (6) + (6)) + (8 * (6) + 9 + (6) + (6))) ?_  ?_ ?_ ?_ ?_ ?_).mono ?_); (exact h'5.qz); (exact h'7.qz); (exact congrArg Prod.snd (tapply_add HOK.out.1 HOK.out.2 _ _)); (first | omega | decide | assumption); (first | omega | decide | assumption); (first | omega | decide | assumption); (first | omega | decide | assumption); rintro e w20 ⟨rfl, hb20⟩
      clear cz14_6_0 cz14_6_1 cz14_6_2 cz14_6_3 cz14_6_4 cz14_6_5 lz14_6_0 lz14_6_1 lz14_6_2 lz14_6_3 cz14_8_0 cz14_8_1 cz14_8_2 cz14_8_3 cz14_8_4 cz14_8_5 lz14_8_0 lz14_8_1 lz14_8_2 lz14_8_3
      have q20 : Below w19.heap.size w19 w20 := hb20
      replace hTa := hTa.belw q20
      replace hTb := hTb.belw q20
      replace hQx := hQx.belw q20
      replace hQy := hQy.belw q20
      replace h4 := h4.belw q20
      replace h5 := h5.belw q20
      replace h'5 := h'5.belw q20
      replace h6 := h6.belw q20
      replace h'6 := h'6.belw q20
      replace h7 := h7.belw q20
      replace h'7 := h'7.belw q20
      replace h12 := h12.belw q20
      replace h17 := h17.belw q20
      replace z14_0 : Blk w20 (w.heap.size) 26 #[.bool b, .slice A n c, .slice D m e, .bool x] := z14_0.below q20 z14_0.lt
      replace z14_1 : Blk w20 (w.heap.size + 1) 26 #[.bool b', .slice A' n' c', .slice D' m' e', .bool x'] := z14_1.below q20 z14_1.lt
      replace z14_2 : Blk w20 (w.heap.size + 1 + 1) 28 #[.bool b'', .slice A'' n'' c'', .slice D'' m'' e'', .bool b3, .slice A3 n3 c3, .slice D3 m3 e3] := z14_2.below q20 z14_2.lt
      replace z14_3 : Blk w20 (w1.heap.size) 24 #[.bool b, .slice A n c, .slice D m e, .bool b', .slice A' n' c', .slice D' m' e', .bool b'', .slice A'' n'' c'', .slice D'' m'' e'', .bool b3, .slice A3 n3 c3, .slice D3 m3 e3] := z14_3.below q20 z14_3.lt
      replace z14_4 : Blk w20 (w2.heap.size) 26 #[.bool b, .slice A n c, .slice D m e, .bool x, .bool b', .slice A' n' c', .slice D' m' e', .bool x'] := z14_4.below q20 z14_4.lt
      replace z14_5 : Blk w20 (w4.heap.size) 26 #[.bool b4, .slice A4 n4 c4, .slice A'4 n'4 c'4, .bool x4] := z14_5.below q20 z14_5.lt
      replace z14_6 : Blk w20 (w5.heap.size) 28 #[.bool b5, .slice A5 n5 c5, .slice A'5 n'5 c'5, .bool d5, .slice D5 m5 e5, .slice D'5 m'5 e'5] := z14_6.below q20 z14_6.lt
      replace z14_7 : Blk w20 (w6.heap.size) 28 #[.bool b6, .slice A6 n6 c6, .slice A'6 n'6 c'6, .bool d6, .slice D6 m6 e6, .slice D'6 m'6 e'6] := z14_7.below q20 z14_7.lt
      replace z14_8 : Blk w20 (w7.heap.size) 28 #[.bool b7, .slice A7 n7 c7, .slice A'7 n'7 c'7, .bool d7, .slice D7 m7 e7, .slice D'7 m'7 e'7] := z14_8.below q20 z14_8.lt
      replace z14_9 : Blk w20 (g15_9) 24 #[.bool b12, .slice A12 n12 c12, .slice A'12 n'12 c'12] := z14_9.below q20 z14_9.lt
      replace xg16_14 : Blk w20 (g16_14) 24 #[.bool b17, .slice A17 n17 c17, .slice A'17 n'17 c'17] := xg16_14.below q20 xg16_14.lt
      have bw20 : Below w.heap.size w w20 := bw19.trans (q20.mono bw19.size)
      have lw20 : w19.heap.size ≤ w20.heap.size := q20.size
      clear hb20 q20 bw19
      have cz14_9_0 : w20.cell? ⟨g15_9, 0, none⟩ = some (.bool b12) := z14_9.cell 0
      have cz14_9_1 : w20.cell? ⟨g15_9, 1, none⟩ = some (.slice A12 n12 c12) := z14_9.cell 1
      have cz14_9_2 : w20.cell? ⟨g15_9, 2, none⟩ = some (.slice A'12 n'12 c'12) := z14_9.cell 2
      have lz14_9_0 : g15_9 < w20.heap.size := by have := z14_9.lt; omega
      have lz14_9_1 : g15_9 < w20.heap.size + 1 := by have := z14_9.lt; omega
      have lz14_9_2 : g15_9 < w20.heap.size + 2 := by have := z14_9.lt; omega
      have lz14_9_3 : g15_9 < w20.heap.size + 3 := by have := z14_9.lt; omega
      have cxg16_14_0 : w20.cell? ⟨g16_14, 0, none⟩ = some (.bool b17) := xg16_14.cell 0
      have cxg16_14_1 : w20.cell? ⟨g16_14, 1, none⟩ = some (.slice A17 n17 c17) := xg16_14.cell 1
      have cxg16_14_2 : w20.cell? ⟨g16_14, 2, none⟩ = some (.slice A'17 n'17 c'17) := xg16_14.cell 2
      have lxg16_14_0 : g16_14 < w20.heap.size := by have := xg16_14.lt; omega
      have lxg16_14_1 : g16_14 < w20.heap.size + 1 := by have := xg16_14.lt; omega
      have lxg16_14_2 : g16_14 < w20.heap.size + 2 := by have := xg16_14.lt; omega
      have lxg16_14_3 : g16_14 < w20.heap.size + 3 := by have := xg16_14.lt; omega
      go_wp2_with fail
      (with_reducible refine (f_cmp_eq _ b12 A12 n12 c12 A'12 n'12 c'12 (((rx.q) * (rx.q)) + ((ry.q) * (ry.q))) (((6) + (6)) + ((6) + (6)) + 1) ?_ b17 A17 n17 c17 A'17 n'17 c'17 ((((tapply (⟨ra.q, x⟩) (rx.q) (ry.q)).1) * ((tapply (⟨ra.q, x⟩) (rx.q) (ry.q)).1)) + (((tapply (⟨ra.q, x⟩) (rx.q) (ry.q)).2) * ((tapply (⟨ra.q, x⟩) (rx.q) (ry.q)).2))) (((8 * (6) + 9 + (6) + (6)) + (8 * (6) + 9 + (6) + (6))) + ((8 * (6) + 9 + (6) + (6)) + (8 * (6) + 9 + (6) + (6))) + 1) ?_  ?_ ?_ ?_ ?_ ?_).mono ?_); (exact h12.qz); (exact h17.qz); (exact (tapply_sq _ _ _).symm); (first | omega | decide | assumption); (first | omega | decide | assumption); (first | omega | decide | assumption); (first | omega | decide | assumption); rintro e w21 ⟨rfl, hb21⟩
      clear cz14_9_0 cz14_9_1 cz14_9_2 lz14_9_0 lz14_9_1 lz14_9_2 lz14_9_3 cxg16_14_0 cxg16_14_1 cxg16_14_2 lxg16_14_0 lxg16_14_1 lxg16_14_2 lxg16_14_3
      have q21 : Below w20.heap.size w20 w21 := hb21
      replace hTa := hTa.belw q21
      replace hTb := hTb.belw q21
      replace hQx := hQx.belw q21
      replace hQy := hQy.belw q21
      replace h4 := h4.belw q21
      replace h5 := h5.belw q21
      replace h'5 := h'5.belw q21
      replace h6 := h6.belw q21
      replace h'6 := h'6.belw q21
      replace h7 := h7.belw q21
      replace h'7 := h'7.belw q21
      replace h12 := h12.belw q21
      replace h17 := h17.belw q21
      replace z14_0 : Blk w21 (w.heap.size) 26 #[.bool b, .slice A n c, .slice D m e, .bool x] := z14_0.below q21 z14_0.lt
      replace z14_1 : Blk w21 (w.heap.size + 1) 26 #[.bool b', .slice A' n' c', .slice D' m' e', .bool x'] := z14_1.below q21 z14_1.lt
      replace z14_2 : Blk w21 (w.heap.size + 1 + 1) 28 #[.bool b'', .slice A'' n'' c'', .slice D'' m'' e'', .bool b3, .slice A3 n3 c3, .slice D3 m3 e3] := z14_2.below q21 z14_2.lt
      replace z14_3 : Blk w21 (w1.heap.size) 24 #[.bool b, .slice A n c, .slice D m e, .bool b', .slice A' n' c', .slice D' m' e', .bool b'', .slice A'' n'' c'', .slice D'' m'' e'', .bool b3, .slice A3 n3 c3, .slice D3 m3 e3] := z14_3.below q21 z14_3.lt
      replace z14_4 : Blk w21 (w2.heap.size) 26 #[.bool b, .slice A n c, .slice D m e, .bool x, .bool b', .slice A' n' c', .slice D' m' e', .bool x'] := z14_4.below q21 z14_4.lt
      replace z14_5 : Blk w21 (w4.heap.size) 26 #[.bool b4, .slice A4 n4 c4, .slice A'4 n'4 c'4, .bool x4] := z14_5.below q21 z14_5.lt
      replace z14_6 : Blk w21 (w5.heap.size) 28 #[.bool b5, .slice A5 n5 c5, .slice A'5 n'5 c'5, .bool d5, .slice D5 m5 e5, .slice D'5 m'5 e'5] := z14_6.below q21 z14_6.lt
      replace z14_7 : Blk w21 (w6.heap.size) 28 #[.bool b6, .slice A6 n6 c6, .slice A'6 n'6 c'6, .bool d6, .slice D6 m6 e6, .slice D'6 m'6 e'6] := z14_7.below q21 z14_7.lt
      replace z14_8 : Blk w21 (w7.heap.size) 28 #[.bool b7, .slice A7 n7 c7, .slice A'7 n'7 c'7, .bool d7, .slice D7 m7 e7, .slice D'7 m'7 e'7] := z14_8.below q21 z14_8.lt
      replace z14_9 : Blk w21 (g15_9) 24 #[.bool b12, .slice A12 n12 c12, .slice A'12 n'12 c'12] := z14_9.below q21 z14_9.lt
      replace xg16_14 : Blk w21 (g16_14) 24 #[.bool b17, .slice A17 n17 c17, .slice A'17 n'17 c'17] := xg16_14.below q21 xg16_14.lt
      have bw21 : Below w.heap.size w w21 := bw20.trans (q21.mono bw20.size)
      have lw21 : w20.heap.size ≤ w21.heap.size := q21.size
      clear hb21 q21 bw20
      go_wp2_with fail
      go_ret
      exact retB rfl bw21
end Go.Proofs.Ytmneloabphplmaa

namespace Go.Proofs.Ytmneloabphplmaa
open Go Go.RowKit Bn Go.ChangeShapes Go.WideShapes
theorem own_knob : ownKnob Try.prog.godebug = none := by kernel_rfl
theorem laid_out : laidOutB Try.prog = true := by kernel_rfl
set_option maxRecDepth 100000 in
theorem applies_lifted (os : Os) (started : os.Started) (H : Type) (enc : TypeId × Value → H) :
    ReturnsInHanded {} Try.checked os 3 .any (Rows.turnAppliesSpec.pre6 enc Try.prog Try.f3 Rows.turnAppliesRow.domain false) (Rows.turnAppliesSpec.post enc Try.prog Try.f3 false true false false) := by
  refine returnsInHanded_of_change (C := Try.checked) own_knob started (by kernel_rfl) Try.func3
    (ChangeSpec.witness6 (enc := enc) (C := Try.checked) false ⟨#[], #[.agg #[.bool false, .slice none 0 0, .slice none 0 0, .bool false], .agg #[.bool false, .slice none 0 0, .slice none 0 0, .bool false], .agg #[.bool false, .slice none 0 0, .slice none 0 0, .bool false, .slice none 0 0, .slice none 0 0]], []⟩ 8 (by kernel_rfl) (by kernel_rfl) (by kernel_rfl) (by kernel_rfl)) ?_
  intro W base args ds gs before hval0 hW _ _
  have hval : ∀ (j : Nat) t v, Try.f3.params[j]? = some t → args[j]? = some v → Value.okWide Try.prog W .any base t v := hval0
  have hW' := hW
  obtain ⟨p, q, hA0, hV, rfl, hfz, hnd⟩ := hW
  have hA : DataW.TrodAll enc Try.prog W 0 (fun _ => true) true Try.f3.params.toList args.toList ds p := hA0
  rw [Try.params3] at hA hval
  obtain ⟨v0, v1, v2, d0, d1, d2, p0, p1, p2, rfl, rfl, rfl, h0, h1, h2⟩ := trodAll_three hA
  obtain ⟨rfl, rfl⟩ := trodVars_none hV
  obtain ⟨b, A, n, c, D, m, e, ra, k, x, rfl, Ha⟩ := turn_open (hval 0 _ v0 rfl rfl) h0
  obtain ⟨b', A', n', c', D', m', e', rb, k', x', rfl, Hb⟩ := turn_open (hval 1 _ v1 rfl rfl) h1
  obtain ⟨b2, A2, n2, c2, D2, m2, e2, rx, k2, b3, A3, n3, c3, D3, m3, e3, ry, k3, rfl, Hx, Hy⟩ := place_open (hval 2 _ v2 rfl rfl) h2
  refine (l_TurnApplies W b A n c D m e ra k Ha b' A' n' c' D' m' e' rb k' Hb b2 A2 n2 c2 D2 m2 e2 rx k2 Hx b3 A3 n3 c3 D3 m3 e3 ry k3 Hy x x').mono fun e W' ⟨he, hb⟩ => ?_
  subst he
  exact ⟨_, rfl, law_post laid_out Try.underlying4 hW' rfl rfl (by kernel_rfl) rfl rfl rfl hb⟩
theorem applies_holds : Rows.TurnAppliesSaid :=
  OpenClaim.holds_of_wide 3 Try.f3 rfl rfl rfl rfl rfl rfl rfl ⟨rfl, rfl, rfl, rfl, rfl⟩ rfl rfl rfl rfl rfl (by kernel_rfl) Try.func3 (by kernel_rfl)
    (of_decide_eq_true (by kernel_rfl)) (by unfold Func.isWrapper; rw [if_neg (of_decide_eq_false (by kernel_rfl))]; exact ⟨rfl, rfl⟩)
    (fun os started H enc _ => applies_lifted os started H enc)
end Go.Proofs.Ytmneloabphplmaa
