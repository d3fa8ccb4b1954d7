/- Part B1: lemmas and walks that the claim rests on. No claim is made here. -/
import Derived.Deep.RegionHeld3
import Derived.Deep.DrawnRows
import Derived.Deep.DeepCutAuto
import Derived.Test.YtmneloabphplmaaGreatA5
set_option linter.unusedVariables false
/- Walks: turns that are not accepted. -/
namespace Go.Proofs.YtmneloabphplmaaGreat
open Go Go.RowKit Bn
attribute [local go_sem ↓] Go.wp_at_zero Go.wp_at_succ
set_option maxRecDepth 100000 in
set_option maxHeartbeats 2000000 in
/-- turn.Check -/
theorem t_chk_1 (w : World) (b : Bool) (A : Option Addr) (n c : Nat) (D : Option Addr) (m e : Nat) (a : RD) (k : Nat) (h : QD w b A n c D m e a k) (h0 : 0 < k) (hk : k ≤ 30000000) (x : Bool) (ho : a.ok = false) :
    Calls Tryz.prog 36 #[.agg #[.bool b, .slice A n c, .slice D m e, .bool x]] w (RetV w (.iface 60 (.int .i64 2))) := by
  have HO := Lib.hid ho
  have hq : QZ w b A n c D m e a.q k := ⟨a, h, rfl⟩
  clear ho
  go_enter Tryz.func36, Tryz.ntmps36
  go_wp2_with fail
  (with_reducible refine (f_valid_e _ b A n c D m e a k false ?_ ?_ ?_).mono ?_); (exact h.belw ((Below.refl _ _).alloc (Nat.le_refl _) _)); (omega); (exact HO.out); rintro e w1 ⟨rfl, hb1⟩
  have q1 : Below w.heap.size w w1 := ((Below.refl _ _).alloc (Nat.le_refl _) _).trans (hb1.mono (by simp))
  replace h := h.belw q1
  replace hq := hq.belw q1
  have x1_0 : Blk w1 (w.heap.size) 26 #[.bool b, .slice A n c, .slice D m e, .bool x] := (blkAt _ _ _ (by simp)).below hb1 (by simp)
  have bw1 : Below w.heap.size w w1 := (brefl w).trans (q1.mono (brefl w).size)
  have lw1 : w.heap.size + 1 ≤ w1.heap.size := by have := hb1.size; simp at this; omega
  clear hb1 q1
  obtain ⟨cx1_0_0, cx1_0_1, cx1_0_2, cx1_0_3⟩ := x1_0.c4
  obtain ⟨lx1_0_0, lx1_0_1, lx1_0_2, lx1_0_3⟩ := lts0 x1_0.lt
  go_wp2_with fail
  go_ret
  exact ⟨rfl, bw1⟩
set_option maxRecDepth 100000 in
set_option maxHeartbeats 2000000 in
/-- turn.Check -/
theorem t_chk_2 (w : World) (b : Bool) (A : Option Addr) (n c : Nat) (D : Option Addr) (m e : Nat) (a : RD) (k : Nat) (h : QD w b A n c D m e a k) (h0 : 0 < k) (hk : k ≤ 30000000) (ho : a.ok = true) :
    Calls Tryz.prog 36 #[.agg #[.bool b, .slice A n c, .slice D m e, .bool false]] w (RetV w (.nilIface)) := by
  have HO := Lib.hid ho
  have hq : QZ w b A n c D m e a.q k := ⟨a, h, rfl⟩
  clear ho
  go_enter Tryz.func36, Tryz.ntmps36
  go_wp2_with fail
  (with_reducible refine (f_valid_e _ b A n c D m e a k true ?_ ?_ ?_).mono ?_); (exact h.belw ((Below.refl _ _).alloc (Nat.le_refl _) _)); (omega); (exact HO.out); rintro e w1 ⟨rfl, hb1⟩
  have q1 : Below w.heap.size w w1 := ((Below.refl _ _).alloc (Nat.le_refl _) _).trans (hb1.mono (by simp))
  replace h := h.belw q1
  replace hq := hq.belw q1
  have x1_0 : Blk w1 (w.heap.size) 26 #[.bool b, .slice A n c, .slice D m e, .bool false] := (blkAt _ _ _ (by simp)).below hb1 (by simp)
  have bw1 : Below w.heap.size w w1 := (brefl w).trans (q1.mono (brefl w).size)
  have lw1 : w.heap.size + 1 ≤ w1.heap.size := by have := hb1.size; simp at this; omega
  clear hb1 q1
  obtain ⟨cx1_0_0, cx1_0_1, cx1_0_2, cx1_0_3⟩ := x1_0.c4
  obtain ⟨lx1_0_0, lx1_0_1, lx1_0_2, lx1_0_3⟩ := lts0 x1_0.lt
  go_wp2_with fail
  go_ret
  exact ⟨rfl, bw1⟩
set_option maxRecDepth 100000 in
set_option maxHeartbeats 2000000 in
/-- turn.Check -/
theorem t_chk_3 (w : World) (b : Bool) (A : Option Addr) (n c : Nat) (D : Option Addr) (m e : Nat) (a : RD) (k : Nat) (h : QD w b A n c D m e a k) (h0 : 0 < k) (hk : k ≤ 30000000) (ho : a.ok = true) (hs : a.q.num.sign = 0) :
    Calls Tryz.prog 36 #[.agg #[.bool b, .slice A n c, .slice D m e, .bool true]] w (RetV w (.nilIface)) := by
  have HO := Lib.hid ho
  have hq : QZ w b A n c D m e a.q k := ⟨a, h, rfl⟩
  clear ho
  have HS := Lib.hid hs
  clear hs
  go_enter Tryz.func36, Tryz.ntmps36
  go_wp2_with fail
  (with_reducible refine (f_valid_e _ b A n c D m e a k true ?_ ?_ ?_).mono ?_); (exact h.belw ((Below.refl _ _).alloc (Nat.le_refl _) _)); (omega); (exact HO.out); rintro e w1 ⟨rfl, hb1⟩
  have q1 : Below w.heap.size w w1 := ((Below.refl _ _).alloc (Nat.le_refl _) _).trans (hb1.mono (by simp))
  replace h := h.belw q1
  replace hq := hq.belw q1
  have x1_0 : Blk w1 (w.heap.size) 26 #[.bool b, .slice A n c, .slice D m e, .bool true] := (blkAt _ _ _ (by simp)).below hb1 (by simp)
  have bw1 : Below w.heap.size w w1 := (brefl w).trans (q1.mono (brefl w).size)
  have lw1 : w.heap.size + 1 ≤ w1.heap.size := by have := hb1.size; simp at this; omega
  clear hb1 q1
  obtain ⟨cx1_0_0, cx1_0_1, cx1_0_2, cx1_0_3⟩ := x1_0.c4
  obtain ⟨lx1_0_0, lx1_0_1, lx1_0_2, lx1_0_3⟩ := lts0 x1_0.lt
  go_wp2_with fail
  (with_reducible refine (f_sign_e _ b A n c D m e (a.q) (k) ?_ 0 ?_ ?_ ?_).mono ?_); (exact hq); (exact HS.out); (omega); (omega); rintro e w2 ⟨rfl, hb2⟩
  clear cx1_0_0 cx1_0_1 cx1_0_2 cx1_0_3 lx1_0_0 lx1_0_1 lx1_0_2 lx1_0_3
  have q2 : Below w1.heap.size w1 w2 := hb2
  replace h := h.belw q2
  replace hq := hq.belw q2
  replace x1_0 := x1_0.below q2 x1_0.lt
  have bw2 : Below w.heap.size w w2 := bw1.trans (q2.mono bw1.size)
  have lw2 : w1.heap.size ≤ w2.heap.size := q2.size
  clear hb2 q2 bw1
  go_wp2_with fail
  go_ret
  exact ⟨rfl, bw2⟩
set_option maxRecDepth 100000 in
set_option maxHeartbeats 2000000 in
/-- turn.Check -/
theorem t_chk_4 (w : World) (b : Bool) (A : Option Addr) (n c : Nat) (D : Option Addr) (m e : Nat) (a : RD) (k : Nat) (h : QD w b A n c D m e a k) (h0 : 0 < k) (hk : k ≤ 30000000) (ho : a.ok = true) (hs : a.q.num.sign ≠ 0) :
    Calls Tryz.prog 36 #[.agg #[.bool b, .slice A n c, .slice D m e, .bool true]] w (RetV w (.iface 60 (.int .i64 2))) := by
  have HO := Lib.hid ho
  have hq : QZ w b A n c D m e a.q k := ⟨a, h, rfl⟩
  clear ho
  obtain ⟨s, hs1⟩ : ∃ s, a.q.num.sign = s := ⟨_, rfl⟩
  rw [hs1] at hs
  have e0 : ((s : Int) == 0) = false := by simpa using hs
  have e1 : ((s : Int) != 0) = true := bne_iff_ne.2 hs
  have HS := Lib.hid hs1
  clear hs hs1
  go_enter Tryz.func36, Tryz.ntmps36
  go_wp2_with fail
  (with_reducible refine (f_valid_e _ b A n c D m e a k true ?_ ?_ ?_).mono ?_); (exact h.belw ((Below.refl _ _).alloc (Nat.le_refl _) _)); (omega); (exact HO.out); rintro e w1 ⟨rfl, hb1⟩
  have q1 : Below w.heap.size w w1 := ((Below.refl _ _).alloc (Nat.le_refl _) _).trans (hb1.mono (by simp))
  replace h := h.belw q1
  replace hq := hq.belw q1
  have x1_0 : Blk w1 (w.heap.size) 26 #[.bool b, .slice A n c, .slice D m e, .bool true] := (blkAt _ _ _ (by simp)).below hb1 (by simp)
  have bw1 : Below w.heap.size w w1 := (brefl w).trans (q1.mono (brefl w).size)
  have lw1 : w.heap.size + 1 ≤ w1.heap.size := by have := hb1.size; simp at this; omega
  clear hb1 q1
  obtain ⟨cx1_0_0, cx1_0_1, cx1_0_2, cx1_0_3⟩ := x1_0.c4
  obtain ⟨lx1_0_0, lx1_0_1, lx1_0_2, lx1_0_3⟩ := lts0 x1_0.lt
  go_wp2_with fail
  (with_reducible refine (f_sign_e _ b A n c D m e (a.q) (k) ?_ s ?_ ?_ ?_).mono ?_); (exact hq); (exact HS.out); (omega); (omega); rintro e w2 ⟨rfl, hb2⟩
  clear cx1_0_0 cx1_0_1 cx1_0_2 cx1_0_3 lx1_0_0 lx1_0_1 lx1_0_2 lx1_0_3
  have q2 : Below w1.heap.size w1 w2 := hb2
  replace h := h.belw q2
  replace hq := hq.belw q2
  replace x1_0 := x1_0.below q2 x1_0.lt
  have bw2 : Below w.heap.size w w2 := bw1.trans (q2.mono bw1.size)
  have lw2 : w1.heap.size ≤ w2.heap.size := q2.size
  clear hb2 q2 bw1
  go_wp2_with fail
  go_ret
  exact ⟨rfl, bw2⟩
theorem t_chk (w : World) (b : Bool) (A : Option Addr) (n c : Nat) (D : Option Addr) (m e : Nat) (a : RD) (k : Nat) (h : QD w b A n c D m e a k) (h0 : 0 < k) (hk : k ≤ 30000000) (x : Bool) : Calls Tryz.prog 36 #[.agg #[.bool b, .slice A n c, .slice D m e, .bool x]] w (RetV w (if accT a x then .nilIface else .iface 60 (.int .i64 2))) := by
  cases ho : a.ok
  · have : accT a x = false := by unfold accT; rw [ho]; rfl
    rw [this]; exact t_chk_1 w b A n c D m e a k h h0 hk x ho
  · cases x
    · have : accT a false = true := by unfold accT; rw [ho]; rfl
      rw [this]; exact t_chk_2 w b A n c D m e a k h h0 hk ho
    · by_cases hs : a.q.num.sign = 0
      · have : accT a true = true := by unfold accT; rw [ho, hs]; rfl
        rw [this]; exact t_chk_3 w b A n c D m e a k h h0 hk ho hs
      · have : accT a true = false := by unfold accT; rw [ho]; simpa using hs
        rw [this]; exact t_chk_4 w b A n c D m e a k h h0 hk ho hs
theorem g_chk_v (w : World) (b : Bool) (A : Option Addr) (n c : Nat) (D : Option Addr) (m e : Nat) (a : RD) (k : Nat) (h : QD w b A n c D m e a k) (x : Bool) (v : Int) (hv : (if accT a x then 0 else 2) = v) (h0 : 0 < k) (hk : k ≤ 30000000) : Calls Tryz.prog 8 #[.agg #[.bool b, .slice A n c, .slice D m e, .bool x]] w (RetV w (.int .i64 v)) := by
  have := g_check w b A n c D m e a k h h0 hk x
  rw [← hv]; exact this
theorem t_chk_bad (w : World) (b : Bool) (A : Option Addr) (n c : Nat) (D : Option Addr) (m e : Nat) (a : RD) (k : Nat) (h : QD w b A n c D m e a k) (h0 : 0 < k) (hk : k ≤ 30000000) (x : Bool) (ha : accT a x = false) : Calls Tryz.prog 36 #[.agg #[.bool b, .slice A n c, .slice D m e, .bool x]] w (RetV w (.iface 60 (.int .i64 2))) := by
  have := t_chk w b A n c D m e a k h h0 hk x
  rwa [ha] at this
theorem g_chk_bad (w : World) (b : Bool) (A : Option Addr) (n c : Nat) (D : Option Addr) (m e : Nat) (a : RD) (k : Nat) (h : QD w b A n c D m e a k) (h0 : 0 < k) (hk : k ≤ 30000000) (x : Bool) (ha : accT a x = false) : Calls Tryz.prog 8 #[.agg #[.bool b, .slice A n c, .slice D m e, .bool x]] w (RetV w (.int .i64 2)) := by
  have := g_check w b A n c D m e a k h h0 hk x
  rwa [ha] at this
theorem g_chk_good (w : World) (b : Bool) (A : Option Addr) (n c : Nat) (D : Option Addr) (m e : Nat) (a : RD) (k : Nat) (h : QD w b A n c D m e a k) (h0 : 0 < k) (hk : k ≤ 30000000) (x : Bool) (ha : accT a x = true) : Calls Tryz.prog 8 #[.agg #[.bool b, .slice A n c, .slice D m e, .bool x]] w (RetV w (.int .i64 0)) := by
  have := g_check w b A n c D m e a k h h0 hk x
  rwa [ha] at this
set_option maxRecDepth 100000 in
set_option maxHeartbeats 2000000 in
theorem t_checkAll_bad (w : World) (g N k : Nat) (rs : Nat → RD) (xs : Nat → Bool) (h : Gs w g N k rs xs) (hN : N ≤ 1000) (h0 : 0 < k) (hk : k ≤ 30000000) (hbad : ∃ i, i < N ∧ accT (rs i) (xs i) = false) :
    Calls Tryz.prog 25 #[.slice (some ⟨g, 0, none⟩) N N] w (RetV w (.iface 60 (.int .i64 2))) := by
  have HBAD := Lib.hid hbad
  clear hbad
  go_enter Tryz.func25, Tryz.ntmps25
  go_wp2_with fail
  go_loopw [8] (fun iv wr => ∃ i : Nat, i ≤ N ∧ iv = .int .i64 (i : Nat) ∧ (∀ j, j < i → accT (rs j) (xs j) = true) ∧ Below w.heap.size w wr) (fun iv _ => N - (intOf iv).toNat)
  case atStart => exact ⟨0, Nat.zero_le _, rfl, fun j hj => absurd hj (by omega), brefl w⟩
  case round =>
    obtain ⟨i, hi, rfl, hall, hb⟩ := hrel
    have HA := Lib.hid hall
    have HB := Lib.hid hb
    by_cases hlt : i < N
    · have hw := h.belw hb
      obtain ⟨b, A, m, c, D, m', e, c0, c1, c2, c3, h5⟩ := hw.2 i hlt
      have hgl := hw.1
      obtain ⟨x, hx⟩ : ∃ x, xs i = x := ⟨_, rfl⟩
      rw [hx] at c3
      have HX := Lib.hid hx
      have H := Lib.hid h
      clear h hw hall hb hx
      go_wp2_with fail
      (with_reducible refine (t_chk _ b A m c D m' e (rs i) k ?_ ?_ ?_ x).mono ?_); (exact h5.belw ((Below.refl _ _).alloc (Nat.le_refl _) _)); (exact h0); (exact hk); rintro e w1 ⟨rfl, hb1⟩
      have HB1 := Lib.hid (HB.out.trans ((((Below.refl _ _).alloc (Nat.le_refl _) _).trans (hb1.mono (by simp))).mono HB.out.size))
      clear hb1
      by_cases hacc : accT (rs i) x = true
      · rw [if_pos hacc]
        have HC := Lib.hid hacc
        clear hacc
        go_wp2_with fail
        go_roundw
        case rel => exact ⟨i + 1, by omega, by go_num, fun j hj => by
          by_cases hji : j = i
          · subst hji; rw [HX.out]; exact HC.out
          · exact HA.out j (by omega), HB1.out⟩
        case measure => simp [intOf]; omega
      · rw [if_neg hacc]
        clear hacc
        go_wp2_with fail
        go_ret
        exact ⟨rfl, HB1.out⟩
    · exfalso
      obtain ⟨j, hj, hf⟩ := HBAD.out
      rw [hall j (by omega)] at hf
      cases hf
set_option maxRecDepth 100000 in
set_option maxHeartbeats 2000000 in
/-- turn.Inside -/
theorem t_Inside_bad (w : World) (k : Nat) (b : Bool) (A : Option Addr) (n c : Nat) (D : Option Addr) (m e : Nat) (ra : RD) (Hra : QD w b A n c D m e ra k) (b' : Bool) (A' : Option Addr) (n' c' : Nat) (D' : Option Addr) (m' e' : Nat) (rb : RD) (Hrb : QD w b' A' n' c' D' m' e' rb k) (b'' : Bool) (A'' : Option Addr) (n'' c'' : Nat) (D'' : Option Addr) (m'' e'' : Nat) (rc : RD) (Hrc : QD w b'' A'' n'' c'' D'' m'' e'' rc k) (x x' x'' : Bool) (h0 : 0 < k) (hk : k ≤ 30000000) (hbad : accT ra x = false ∨ accT rb x' = false ∨ accT rc x'' = false) :
    Calls Tryz.prog 7 #[.agg #[.bool b, .slice A n c, .slice D m e, .bool x], .agg #[.bool b', .slice A' n' c', .slice D' m' e', .bool x'], .agg #[.bool b'', .slice A'' n'' c'', .slice D'' m'' e'', .bool x'']] w (RetV w (.tuple #[.bool false, .iface 60 (.int .i64 2)])) := by
  have HBAD := Lib.hid (show ∃ i, i < 3 ∧ accT ((fun i : Nat => if i = 0 then ra else if i = 1 then rb else rc) i) ((fun i : Nat => if i = 0 then x else if i = 1 then x' else x'') i) = false by
    rcases hbad with h | h | h
    · exact ⟨0, by decide, h⟩
    · exact ⟨1, by decide, h⟩
    · exact ⟨2, by decide, h⟩
    )
  clear hbad
  go_enter Tryz.func7, Tryz.ntmps7
  go_wp2_with fail
  (with_reducible refine (t_checkAll_bad _ (w.heap.size + 1 + 1 + 1) 3 (k) (fun i : Nat => if i = 0 then (ra) else if i = 1 then (rb) else (rc)) (fun i : Nat => if i = 0 then x else if i = 1 then x' else x'') ?_ ?_ ?_ ?_ ?_).mono ?_); (exact gs3 (blkAt _ _ _ (by simp)) ((Hra.belw (((((Below.refl _ _).alloc (Nat.le_refl _) _).alloc (by simp) _).alloc (by simp <;> omega) _).alloc (by simp <;> omega) _))) ((Hrb.belw (((((Below.refl _ _).alloc (Nat.le_refl _) _).alloc (by simp) _).alloc (by simp <;> omega) _).alloc (by simp <;> omega) _))) ((Hrc.belw (((((Below.refl _ _).alloc (Nat.le_refl _) _).alloc (by simp) _).alloc (by simp <;> omega) _).alloc (by simp <;> omega) _)))); (first | omega | decide | assumption); (first | omega | decide | assumption); (first | omega | decide | assumption); (exact HBAD.out); rintro e w1 ⟨rfl, hb1⟩
  have q1 : Below w.heap.size w w1 := (((((Below.refl _ _).alloc (Nat.le_refl _) _).alloc (by simp) _).alloc (by simp <;> omega) _).alloc (by simp <;> omega) _).trans (hb1.mono (by simp <;> omega))
  replace Hra := Hra.belw q1
  replace Hrb := Hrb.belw q1
  replace Hrc := Hrc.belw q1
  have x1_0 : Blk w1 (w.heap.size) 26 #[.bool b, .slice A n c, .slice D m e, .bool x] := ((((blkAt _ _ _ (by simp)).alloc _).alloc _).alloc _).below hb1 (by simp <;> omega)
  have x1_1 : Blk w1 (w.heap.size + 1) 26 #[.bool b', .slice A' n' c', .slice D' m' e', .bool x'] := (((blkAt _ _ _ (by simp)).alloc _).alloc _).below hb1 (by simp <;> omega)
  have x1_2 : Blk w1 (w.heap.size + 1 + 1) 26 #[.bool b'', .slice A'' n'' c'', .slice D'' m'' e'', .bool x''] := ((blkAt _ _ _ (by simp)).alloc _).below hb1 (by simp <;> omega)
  have x1_3 : Blk w1 (w.heap.size + 1 + 1 + 1) 26 #[.bool b, .slice A n c, .slice D m e, .bool x, .bool b', .slice A' n' c', .slice D' m' e', .bool x', .bool b'', .slice A'' n'' c'', .slice D'' m'' e'', .bool x''] := (blkAt _ _ _ (by simp)).below hb1 (by simp)
  have bw1 : Below w.heap.size w w1 := (brefl w).trans (q1.mono (brefl w).size)
  have lw1 : w.heap.size + 4 ≤ w1.heap.size := by have := hb1.size; simp at this; omega
  clear hb1 q1
  go_wp2_with fail
  refine bodyPost_ret (v := .tuple #[.bool false, .iface 60 (.int .i64 2)]) (by simp [results, Tryz.results7, go_sem, *] <;> first | rfl | exact ⟨rfl, rfl⟩) rfl ?_
  exact ⟨rfl, bw1⟩
set_option maxRecDepth 100000 in
set_option maxHeartbeats 2000000 in
/-- turn.Cmp -/
theorem t_Cmp_bad (w : World) (k : Nat) (b : Bool) (A : Option Addr) (n c : Nat) (D : Option Addr) (m e : Nat) (ra : RD) (Hra : QD w b A n c D m e ra k) (b' : Bool) (A' : Option Addr) (n' c' : Nat) (D' : Option Addr) (m' e' : Nat) (rb : RD) (Hrb : QD w b' A' n' c' D' m' e' rb k) (x x' : Bool) (h0 : 0 < k) (hk : k ≤ 30000000) (hbad : accT ra x = false ∨ accT rb x' = false) :
    Calls Tryz.prog 12 #[.agg #[.bool b, .slice A n c, .slice D m e, .bool x], .agg #[.bool b', .slice A' n' c', .slice D' m' e', .bool x']] w (RetV w (.tuple #[.int .i64 0, .iface 60 (.int .i64 2)])) := by
  have HBAD := Lib.hid (show ∃ i, i < 2 ∧ accT ((fun i : Nat => if i = 0 then ra else rb) i) ((fun i : Nat => if i = 0 then x else x') i) = false by
    rcases hbad with h | h
    · exact ⟨0, by decide, h⟩
    · exact ⟨1, by decide, h⟩
    )
  clear hbad
  go_enter Tryz.func12, Tryz.ntmps12
  go_wp2_with fail
  (with_reducible refine (t_checkAll_bad _ (w.heap.size + 1 + 1) 2 (k) (fun i : Nat => if i = 0 then (ra) else (rb)) (fun i : Nat => if i = 0 then x else x') ?_ ?_ ?_ ?_ ?_).mono ?_); (exact gs2 (blkAt _ _ _ (by simp)) ((Hra.belw ((((Below.refl _ _).alloc (Nat.le_refl _) _).alloc (by simp) _).alloc (by simp <;> omega) _))) ((Hrb.belw ((((Below.refl _ _).alloc (Nat.le_refl _) _).alloc (by simp) _).alloc (by simp <;> omega) _)))); (first | omega | decide | assumption); (first | omega | decide | assumption); (first | omega | decide | assumption); (exact HBAD.out); rintro e w1 ⟨rfl, hb1⟩
  have q1 : Below w.heap.size w w1 := ((((Below.refl _ _).alloc (Nat.le_refl _) _).alloc (by simp) _).alloc (by simp <;> omega) _).trans (hb1.mono (by simp <;> omega))
  replace Hra := Hra.belw q1
  replace Hrb := Hrb.belw q1
  have x1_0 : Blk w1 (w.heap.size) 26 #[.bool b, .slice A n c, .slice D m e, .bool x] := (((blkAt _ _ _ (by simp)).alloc _).alloc _).below hb1 (by simp <;> omega)
  have x1_1 : Blk w1 (w.heap.size + 1) 26 #[.bool b', .slice A' n' c', .slice D' m' e', .bool x'] := ((blkAt _ _ _ (by simp)).alloc _).below hb1 (by simp <;> omega)
  have x1_2 : Blk w1 (w.heap.size + 1 + 1) 26 #[.bool b, .slice A n c, .slice D m e, .bool x, .bool b', .slice A' n' c', .slice D' m' e', .bool x'] := (blkAt _ _ _ (by simp)).below hb1 (by simp)
  have bw1 : Below w.heap.size w w1 := (brefl w).trans (q1.mono (brefl w).size)
  have lw1 : w.heap.size + 3 ≤ w1.heap.size := by have := hb1.size; simp at this; omega
  clear hb1 q1
  go_wp2_with fail
  refine bodyPost_ret (v := .tuple #[.int .i64 0, .iface 60 (.int .i64 2)]) (by simp [results, Tryz.results12, go_sem, *] <;> first | rfl | exact ⟨rfl, rfl⟩) rfl ?_
  exact ⟨rfl, bw1⟩
set_option maxRecDepth 100000 in
set_option maxHeartbeats 2000000 in
/-- turn.Add -/
theorem t_Add_bad (w : World) (k : Nat) (b : Bool) (A : Option Addr) (n c : Nat) (D : Option Addr) (m e : Nat) (ra : RD) (Hra : QD w b A n c D m e ra k) (b' : Bool) (A' : Option Addr) (n' c' : Nat) (D' : Option Addr) (m' e' : Nat) (rb : RD) (Hrb : QD w b' A' n' c' D' m' e' rb k) (x x' : Bool) (h0 : 0 < k) (hk : k ≤ 30000000) (hbad : accT ra x = false ∨ accT rb x' = false) :
    Calls Tryz.prog 11 #[.agg #[.bool b, .slice A n c, .slice D m e, .bool x], .agg #[.bool b', .slice A' n' c', .slice D' m' e', .bool x']] w (RetV w (.tuple #[.agg #[.bool false, .slice none 0 0, .slice none 0 0, .bool false], .iface 60 (.int .i64 2)])) := by
  have HBAD := Lib.hid (show ∃ i, i < 2 ∧ accT ((fun i : Nat => if i = 0 then ra else rb) i) ((fun i : Nat => if i = 0 then x else x') i) = false by
    rcases hbad with h | h
    · exact ⟨0, by decide, h⟩
    · exact ⟨1, by decide, h⟩
    )
  clear hbad
  go_enter Tryz.func11, Tryz.ntmps11
  go_wp2_with fail
  (with_reducible refine (t_checkAll_bad _ (w.heap.size + 1 + 1 + 1) 2 (k) (fun i : Nat => if i = 0 then (ra) else (rb)) (fun i : Nat => if i = 0 then x else x') ?_ ?_ ?_ ?_ ?_).mono ?_); (exact gs2 (blkAt _ _ _ (by simp)) ((Hra.belw (((((Below.refl _ _).alloc (Nat.le_refl _) _).alloc (by simp) _).alloc (by simp <;> omega) _).alloc (by simp <;> omega) _))) ((Hrb.belw (((((Below.refl _ _).alloc (Nat.le_refl _) _).alloc (by simp) _).alloc (by simp <;> omega) _).alloc (by simp <;> omega) _)))); (first | omega | decide | assumption); (first | omega | decide | assumption); (first | omega | decide | assumption); (exact HBAD.out); rintro e w1 ⟨rfl, hb1⟩
  have q1 : Below w.heap.size w w1 := (((((Below.refl _ _).alloc (Nat.le_refl _) _).alloc (by simp) _).alloc (by simp <;> omega) _).alloc (by simp <;> omega) _).trans (hb1.mono (by simp <;> omega))
  replace Hra := Hra.belw q1
  replace Hrb := Hrb.belw q1
  have x1_0 : Blk w1 (w.heap.size) 26 #[.bool b, .slice A n c, .slice D m e, .bool x] := ((((blkAt _ _ _ (by simp)).alloc _).alloc _).alloc _).below hb1 (by simp <;> omega)
  have x1_1 : Blk w1 (w.heap.size + 1) 26 #[.bool b', .slice A' n' c', .slice D' m' e', .bool x'] := (((blkAt _ _ _ (by simp)).alloc _).alloc _).below hb1 (by simp <;> omega)
  have x1_2 : Blk w1 (w.heap.size + 1 + 1) 26 #[.bool false, .slice none 0 0, .slice none 0 0, .bool false] := ((blkAt _ _ _ (by simp)).alloc _).below hb1 (by simp <;> omega)
  have x1_3 : Blk w1 (w.heap.size + 1 + 1 + 1) 26 #[.bool b, .slice A n c, .slice D m e, .bool x, .bool b', .slice A' n' c', .slice D' m' e', .bool x'] := (blkAt _ _ _ (by simp)).below hb1 (by simp)
  have bw1 : Below w.heap.size w w1 := (brefl w).trans (q1.mono (brefl w).size)
  have lw1 : w.heap.size + 4 ≤ w1.heap.size := by have := hb1.size; simp at this; omega
  clear hb1 q1
  obtain ⟨cx1_2_0, cx1_2_1, cx1_2_2, cx1_2_3⟩ := x1_2.c4
  obtain ⟨fx1_2_0, fx1_2_1, fx1_2_2, fx1_2_3⟩ := x1_2.f4
  obtain ⟨lx1_2_0, lx1_2_1, lx1_2_2, lx1_2_3⟩ := lts2 x1_2.lt
  go_wp2_with fail
  refine bodyPost_ret (v := .tuple #[.agg #[.bool false, .slice none 0 0, .slice none 0 0, .bool false], .iface 60 (.int .i64 2)]) (by simp [results, Tryz.results11, go_sem, *] <;> first | rfl | exact ⟨rfl, rfl⟩) rfl ?_
  exact ⟨rfl, ((((bw1.setCell (p := ⟨w.heap.size + 1 + 1, 0, none⟩) (by dsimp only; omega) (.bool false)).setCell (p := ⟨w.heap.size + 1 + 1, 1, none⟩) (by dsimp only; omega) (.slice none 0 0)).setCell (p := ⟨w.heap.size + 1 + 1, 2, none⟩) (by dsimp only; omega) (.slice none 0 0)).setCell (p := ⟨w.heap.size + 1 + 1, 3, none⟩) (by dsimp only; omega) (.bool false))⟩
set_option maxRecDepth 100000 in
set_option maxHeartbeats 2000000 in
/-- turn.Between -/
theorem t_Between_bad (w : World) (k : Nat) (b : Bool) (A : Option Addr) (n c : Nat) (D : Option Addr) (m e : Nat) (ra : RD) (Hra : QD w b A n c D m e ra k) (b' : Bool) (A' : Option Addr) (n' c' : Nat) (D' : Option Addr) (m' e' : Nat) (rb : RD) (Hrb : QD w b' A' n' c' D' m' e' rb k) (x x' : Bool) (h0 : 0 < k) (hk : k ≤ 30000000) (hbad : accT ra x = false ∨ accT rb x' = false) :
    Calls Tryz.prog 13 #[.agg #[.bool b, .slice A n c, .slice D m e, .bool x], .agg #[.bool b', .slice A' n' c', .slice D' m' e', .bool x']] w (RetV w (.tuple #[.agg #[.bool false, .slice none 0 0, .slice none 0 0, .bool false], .iface 60 (.int .i64 2)])) := by
  have HBAD := Lib.hid (show ∃ i, i < 2 ∧ accT ((fun i : Nat => if i = 0 then ra else rb) i) ((fun i : Nat => if i = 0 then x else x') i) = false by
    rcases hbad with h | h
    · exact ⟨0, by decide, h⟩
    · exact ⟨1, by decide, h⟩
    )
  clear hbad
  go_enter Tryz.func13, Tryz.ntmps13
  go_wp2_with fail
  (with_reducible refine (t_checkAll_bad _ (w.heap.size + 1 + 1 + 1) 2 (k) (fun i : Nat => if i = 0 then (ra) else (rb)) (fun i : Nat => if i = 0 then x else x') ?_ ?_ ?_ ?_ ?_).mono ?_); (exact gs2 (blkAt _ _ _ (by simp)) ((Hra.belw (((((Below.refl _ _).alloc (Nat.le_refl _) _).alloc (by simp) _).alloc (by simp <;> omega) _).alloc (by simp <;> omega) _))) ((Hrb.belw (((((Below.refl _ _).alloc (Nat.le_refl _) _).alloc (by simp) _).alloc (by simp <;> omega) _).alloc (by simp <;> omega) _)))); (first | omega | decide | assumption); (first | omega | decide | assumption); (first | omega | decide | assumption); (exact HBAD.out); rintro e w1 ⟨rfl, hb1⟩
  have q1 : Below w.heap.size w w1 := (((((Below.refl _ _).alloc (Nat.le_refl _) _).alloc (by simp) _).alloc (by simp <;> omega) _).alloc (by simp <;> omega) _).trans (hb1.mono (by simp <;> omega))
  replace Hra := Hra.belw q1
  replace Hrb := Hrb.belw q1
  have x1_0 : Blk w1 (w.heap.size) 26 #[.bool b, .slice A n c, .slice D m e, .bool x] := ((((blkAt _ _ _ (by simp)).alloc _).alloc _).alloc _).below hb1 (by simp <;> omega)
  have x1_1 : Blk w1 (w.heap.size + 1) 26 #[.bool b', .slice A' n' c', .slice D' m' e', .bool x'] := (((blkAt _ _ _ (by simp)).alloc _).alloc _).below hb1 (by simp <;> omega)
  have x1_2 : Blk w1 (w.heap.size + 1 + 1) 26 #[.bool false, .slice none 0 0, .slice none 0 0, .bool false] := ((blkAt _ _ _ (by simp)).alloc _).below hb1 (by simp <;> omega)
  have x1_3 : Blk w1 (w.heap.size + 1 + 1 + 1) 26 #[.bool b, .slice A n c, .slice D m e, .bool x, .bool b', .slice A' n' c', .slice D' m' e', .bool x'] := (blkAt _ _ _ (by simp)).below hb1 (by simp)
  have bw1 : Below w.heap.size w w1 := (brefl w).trans (q1.mono (brefl w).size)
  have lw1 : w.heap.size + 4 ≤ w1.heap.size := by have := hb1.size; simp at this; omega
  clear hb1 q1
  obtain ⟨cx1_2_0, cx1_2_1, cx1_2_2, cx1_2_3⟩ := x1_2.c4
  obtain ⟨fx1_2_0, fx1_2_1, fx1_2_2, fx1_2_3⟩ := x1_2.f4
  obtain ⟨lx1_2_0, lx1_2_1, lx1_2_2, lx1_2_3⟩ := lts2 x1_2.lt
  go_wp2_with fail
  refine bodyPost_ret (v := .tuple #[.agg #[.bool false, .slice none 0 0, .slice none 0 0, .bool false], .iface 60 (.int .i64 2)]) (by simp [results, Tryz.results13, go_sem, *] <;> first | rfl | exact ⟨rfl, rfl⟩) rfl ?_
  exact ⟨rfl, ((((bw1.setCell (p := ⟨w.heap.size + 1 + 1, 0, none⟩) (by dsimp only; omega) (.bool false)).setCell (p := ⟨w.heap.size + 1 + 1, 1, none⟩) (by dsimp only; omega) (.slice none 0 0)).setCell (p := ⟨w.heap.size + 1 + 1, 2, none⟩) (by dsimp only; omega) (.slice none 0 0)).setCell (p := ⟨w.heap.size + 1 + 1, 3, none⟩) (by dsimp only; omega) (.bool false))⟩
set_option maxRecDepth 100000 in
set_option maxHeartbeats 2000000 in
/-- turn.Apply -/
theorem t_Apply_bad (w : World) (k : Nat) (b : Bool) (A : Option Addr) (n c : Nat) (D : Option Addr) (m e : Nat) (ra : RD) (Hra : QD w b A n c D m e ra k) (x : Bool) (b2 : Bool) (A2 : Option Addr) (n2 c2 : Nat) (D2 : Option Addr) (m2 e2 : Nat) (b3 : Bool) (A3 : Option Addr) (n3 c3 : Nat) (D3 : Option Addr) (m3 e3 : Nat) (h0 : 0 < k) (hk : k ≤ 30000000) (hbad : accT ra x = false) :
    Calls Tryz.prog 14 #[.agg #[.bool b, .slice A n c, .slice D m e, .bool x], .agg #[.bool b2, .slice A2 n2 c2, .slice D2 m2 e2, .bool b3, .slice A3 n3 c3, .slice D3 m3 e3]] w (RetV w (.tuple #[.agg #[.bool false, .slice none 0 0, .slice none 0 0, .bool false, .slice none 0 0, .slice none 0 0], .iface 60 (.int .i64 2)])) := by
  have HBAD := Lib.hid hbad
  clear hbad
  go_enter Tryz.func14, Tryz.ntmps14
  go_wp2_with fail
  (with_reducible refine (t_chk_bad _ b A n c D m e ra k ?_ ?_ ?_ x ?_).mono ?_); (exact Hra.belw ((((Below.refl _ _).alloc (Nat.le_refl _) _).alloc (by simp) _).alloc (by simp <;> omega) _)); (exact h0); (exact hk); (exact HBAD.out); rintro e w1 ⟨rfl, hb1⟩
  have q1 : Below w.heap.size w w1 := ((((Below.refl _ _).alloc (Nat.le_refl _) _).alloc (by simp) _).alloc (by simp <;> omega) _).trans (hb1.mono (by simp <;> omega))
  replace Hra := Hra.belw q1
  have x1_0 : Blk w1 (w.heap.size) 26 #[.bool b, .slice A n c, .slice D m e, .bool x] := (((blkAt _ _ _ (by simp)).alloc _).alloc _).below hb1 (by simp <;> omega)
  have x1_1 : Blk w1 (w.heap.size + 1) 38 #[.bool b2, .slice A2 n2 c2, .slice D2 m2 e2, .bool b3, .slice A3 n3 c3, .slice D3 m3 e3] := ((blkAt _ _ _ (by simp)).alloc _).below hb1 (by simp <;> omega)
  have x1_2 : Blk w1 (w.heap.size + 1 + 1) 38 #[.bool false, .slice none 0 0, .slice none 0 0, .bool false, .slice none 0 0, .slice none 0 0] := (blkAt _ _ _ (by simp)).below hb1 (by simp)
  have bw1 : Below w.heap.size w w1 := (brefl w).trans (q1.mono (brefl w).size)
  have lw1 : w.heap.size + 3 ≤ w1.heap.size := by have := hb1.size; simp at this; omega
  clear hb1 q1
  obtain ⟨cx1_2_0, cx1_2_1, cx1_2_2, cx1_2_3, cx1_2_4, cx1_2_5⟩ := x1_2.c6
  obtain ⟨fx1_2_0, fx1_2_1, fx1_2_2, fx1_2_3, fx1_2_4, fx1_2_5⟩ := x1_2.f6
  obtain ⟨lx1_2_0, lx1_2_1, lx1_2_2, lx1_2_3⟩ := lts2 x1_2.lt
  go_wp2_with fail
  refine bodyPost_ret (v := .tuple #[.agg #[.bool false, .slice none 0 0, .slice none 0 0, .bool false, .slice none 0 0, .slice none 0 0], .iface 60 (.int .i64 2)]) (by simp [results, Tryz.results14, go_sem, *] <;> first | rfl | exact ⟨rfl, rfl⟩) rfl ?_
  exact ⟨rfl, ((((((bw1.setCell (p := ⟨w.heap.size + 1 + 1, 0, none⟩) (by dsimp only; omega) (.bool false)).setCell (p := ⟨w.heap.size + 1 + 1, 1, none⟩) (by dsimp only; omega) (.slice none 0 0)).setCell (p := ⟨w.heap.size + 1 + 1, 2, none⟩) (by dsimp only; omega) (.slice none 0 0)).setCell (p := ⟨w.heap.size + 1 + 1, 3, none⟩) (by dsimp only; omega) (.bool false)).setCell (p := ⟨w.heap.size + 1 + 1, 4, none⟩) (by dsimp only; omega) (.slice none 0 0)).setCell (p := ⟨w.heap.size + 1 + 1, 5, none⟩) (by dsimp only; omega) (.slice none 0 0))⟩
set_option maxHeartbeats 1000000 in
theorem b_num_nil (w : World) : Calls Tryz.prog 9 #[.nilIface] w (RetV w (.int .i64 0)) := by
  go_enter Tryz.func9, Tryz.ntmps9
  go_wp2
  go_ret
  exact ⟨rfl, brefl w⟩
theorem run_as_err (w : World) : (Instr.typeAssert (.iface 60 (.int .i64 2)) 30 60 true).run Tryz.prog w = .ok (.tuple #[.int .i64 2, .bool true]) w := by
  simp [Instr.typeAssert, run_underlying Tryz.underlying60]
set_option maxRecDepth 100000 in
set_option maxHeartbeats 1000000 in
theorem b_num_err (w : World) : Calls Tryz.prog 9 #[.iface 60 (.int .i64 2)] w (RetV w (.int .i64 2)) := by
  go_enter Tryz.func9, Tryz.ntmps9
  have hr := run_as_err
  go_wp2
  go_ret
  exact ⟨rfl, brefl w⟩
end Go.Proofs.YtmneloabphplmaaGreat

/- Walks: the reference: whether two accepted turns are the same. -/
namespace Go.Proofs.YtmneloabphplmaaGreat
open Go Go.RowKit Bn
attribute [local go_sem ↓] Go.wp_at_zero Go.wp_at_succ
theorem g_cmp_e (w : World) (b : Bool) (A : Option Addr) (n c : Nat) (D : Option Addr) (m e : Nat) (q : Rat) (k : Nat) (h : QZ w b A n c D m e q k) (b' : Bool) (A' : Option Addr) (n' c' : Nat) (D' : Option Addr) (m' e' : Nat) (q' : Rat) (k' : Nat) (h' : QZ w b' A' n' c' D' m' e' q' k') (s : Int) (hs : (q - q').num.sign = s) (h0 : 0 < k) (hk : k ≤ 10000000) (h0' : 0 < k') (hk' : k' ≤ 10000000) : Calls Tryz.prog 16 #[.agg #[.bool b, .slice A n c, .slice D m e], .agg #[.bool b', .slice A' n' c', .slice D' m' e']] w (RetV w (.int .i64 s)) := by
  subst hs; exact g_cmp w b A n c D m e q k h b' A' n' c' D' m' e' q' k' h' h0 hk h0' hk'
theorem sub_sign {q q' : Rat} : (q - q').num.sign = 0 ↔ q = q' := by
  rw [Int.sign_eq_zero_iff_zero, Rat.num_eq_zero]
  constructor
  · intro h; have h2 := Rat.sub_add_cancel (a := q) (b := q'); rw [h, Rat.zero_add] at h2; exact h2.symm
  · intro h; rw [h]; exact Rat.sub_self
set_option maxRecDepth 100000 in
set_option maxHeartbeats 2000000 in
/-- linkworkref12.Same -/
theorem g_same_tt0 (w : World) (b : Bool) (A : Option Addr) (n c : Nat) (D : Option Addr) (m e : Nat) (t : TN) (k : Nat) (h : TK w b A n c D m e true t k) (b' : Bool) (A' : Option Addr) (n' c' : Nat) (D' : Option Addr) (m' e' : Nat) (t' : TN) (k' : Nat) (h' : TK w b' A' n' c' D' m' e' true t' k') (h0 : 0 < k) (hk : k ≤ 1000000) (h0' : 0 < k') (hk' : k' ≤ 1000000) (hs : (t.t - t'.t).num.sign = 0) :
    Calls Tryz.prog 17 #[.agg #[.bool b, .slice A n c, .slice D m e, .bool true], .agg #[.bool b', .slice A' n' c', .slice D' m' e', .bool true]] w (RetV w (.bool true)) := by
  have HS := Lib.hid hs
  clear hs
  go_enter Tryz.func17, Tryz.ntmps17
  go_wp2_with fail
  (with_reducible refine (g_cmp_e _ b A n c D m e ((t).t) (k) ?_ b' A' n' c' D' m' e' ((t').t) (k') ?_ (0) ?_ ?_ ?_ ?_ ?_).mono ?_); (exact (h.belw (((Below.refl _ _).alloc (Nat.le_refl _) _).alloc (by simp) _)).qz); (exact (h'.belw (((Below.refl _ _).alloc (Nat.le_refl _) _).alloc (by simp) _)).qz); (exact HS.out); (first | omega | decide | assumption); (first | omega | decide | assumption); (first | omega | decide | assumption); (first | omega | decide | assumption); rintro e w1 ⟨rfl, hb1⟩
  have q1 : Below w.heap.size w w1 := (((Below.refl _ _).alloc (Nat.le_refl _) _).alloc (by simp) _).trans (hb1.mono (by simp <;> omega))
  replace h := h.belw q1
  replace h' := h'.belw q1
  have x1_0 : Blk w1 (w.heap.size) 26 #[.bool b, .slice A n c, .slice D m e, .bool true] := ((blkAt _ _ _ (by simp)).alloc _).below hb1 (by simp <;> omega)
  have x1_1 : Blk w1 (w.heap.size + 1) 26 #[.bool b', .slice A' n' c', .slice D' m' e', .bool true] := (blkAt _ _ _ (by simp)).below hb1 (by simp)
  have bw1 : Below w.heap.size w w1 := (brefl w).trans (q1.mono (brefl w).size)
  have lw1 : w.heap.size + 2 ≤ w1.heap.size := by have := hb1.size; simp at this; omega
  clear hb1 q1
  go_wp2_with fail
  go_ret
  exact retB rfl bw1
set_option maxRecDepth 100000 in
set_option maxHeartbeats 2000000 in
/-- linkworkref12.Same -/
theorem g_same_tts (w : World) (b : Bool) (A : Option Addr) (n c : Nat) (D : Option Addr) (m e : Nat) (t : TN) (k : Nat) (h : TK w b A n c D m e true t k) (b' : Bool) (A' : Option Addr) (n' c' : Nat) (D' : Option Addr) (m' e' : Nat) (t' : TN) (k' : Nat) (h' : TK w b' A' n' c' D' m' e' true t' k') (h0 : 0 < k) (hk : k ≤ 1000000) (h0' : 0 < k') (hk' : k' ≤ 1000000) (s : Int) (hs : (t.t - t'.t).num.sign = s) (hne : s ≠ 0) :
    Calls Tryz.prog 17 #[.agg #[.bool b, .slice A n c, .slice D m e, .bool true], .agg #[.bool b', .slice A' n' c', .slice D' m' e', .bool true]] w (RetV w (.bool false)) := by
  have HS := Lib.hid hs
  have e0 : ((s : Int) == 0) = false := by simp; exact hne
  clear hs hne
  go_enter Tryz.func17, Tryz.ntmps17
  go_wp2_with fail
  (with_reducible refine (g_cmp_e _ b A n c D m e ((t).t) (k) ?_ b' A' n' c' D' m' e' ((t').t) (k') ?_ (s) ?_ ?_ ?_ ?_ ?_).mono ?_); (exact (h.belw (((Below.refl _ _).alloc (Nat.le_refl _) _).alloc (by simp) _)).qz); (exact (h'.belw (((Below.refl _ _).alloc (Nat.le_refl _) _).alloc (by simp) _)).qz); (exact HS.out); (first | omega | decide | assumption); (first | omega | decide | assumption); (first | omega | decide | assumption); (first | omega | decide | assumption); rintro e w1 ⟨rfl, hb1⟩
  have q1 : Below w.heap.size w w1 := (((Below.refl _ _).alloc (Nat.le_refl _) _).alloc (by simp) _).trans (hb1.mono (by simp <;> omega))
  replace h := h.belw q1
  replace h' := h'.belw q1
  have x1_0 : Blk w1 (w.heap.size) 26 #[.bool b, .slice A n c, .slice D m e, .bool true] := ((blkAt _ _ _ (by simp)).alloc _).below hb1 (by simp <;> omega)
  have x1_1 : Blk w1 (w.heap.size + 1) 26 #[.bool b', .slice A' n' c', .slice D' m' e', .bool true] := (blkAt _ _ _ (by simp)).below hb1 (by simp)
  have bw1 : Below w.heap.size w w1 := (brefl w).trans (q1.mono (brefl w).size)
  have lw1 : w.heap.size + 2 ≤ w1.heap.size := by have := hb1.size; simp at this; omega
  clear hb1 q1
  go_wp2_with fail
  go_ret
  exact retB rfl bw1
set_option maxRecDepth 100000 in
set_option maxHeartbeats 2000000 in
/-- linkworkref12.Same -/
theorem g_same_tf (w : World) (b : Bool) (A : Option Addr) (n c : Nat) (D : Option Addr) (m e : Nat) (t : TN) (k : Nat) (h : TK w b A n c D m e true t k) (b' : Bool) (A' : Option Addr) (n' c' : Nat) (D' : Option Addr) (m' e' : Nat) (t' : TN) (k' : Nat) (h' : TK w b' A' n' c' D' m' e' false t' k') (h0 : 0 < k) (hk : k ≤ 1000000) (h0' : 0 < k') (hk' : k' ≤ 1000000)  :
    Calls Tryz.prog 17 #[.agg #[.bool b, .slice A n c, .slice D m e, .bool true], .agg #[.bool b', .slice A' n' c', .slice D' m' e', .bool false]] w (RetV w (.bool false)) := by
  go_enter Tryz.func17, Tryz.ntmps17
  go_wp2_with fail
  go_ret
  exact retB rfl (((brefl w).alloc (by first | omega | (simp <;> omega)) (.cells #[.bool b, .slice A n c, .slice D m e, .bool true] 26)).alloc (by first | omega | (simp <;> omega)) (.cells #[.bool b', .slice A' n' c', .slice D' m' e', .bool false] 26))
set_option maxRecDepth 100000 in
set_option maxHeartbeats 2000000 in
/-- linkworkref12.Same -/
theorem g_same_ft (w : World) (b : Bool) (A : Option Addr) (n c : Nat) (D : Option Addr) (m e : Nat) (t : TN) (k : Nat) (h : TK w b A n c D m e false t k) (b' : Bool) (A' : Option Addr) (n' c' : Nat) (D' : Option Addr) (m' e' : Nat) (t' : TN) (k' : Nat) (h' : TK w b' A' n' c' D' m' e' true t' k') (h0 : 0 < k) (hk : k ≤ 1000000) (h0' : 0 < k') (hk' : k' ≤ 1000000)  :
    Calls Tryz.prog 17 #[.agg #[.bool b, .slice A n c, .slice D m e, .bool false], .agg #[.bool b', .slice A' n' c', .slice D' m' e', .bool true]] w (RetV w (.bool false)) := by
  go_enter Tryz.func17, Tryz.ntmps17
  go_wp2_with fail
  go_ret
  exact retB rfl (((brefl w).alloc (by first | omega | (simp <;> omega)) (.cells #[.bool b, .slice A n c, .slice D m e, .bool false] 26)).alloc (by first | omega | (simp <;> omega)) (.cells #[.bool b', .slice A' n' c', .slice D' m' e', .bool true] 26))
set_option maxRecDepth 100000 in
set_option maxHeartbeats 2000000 in
/-- linkworkref12.Same -/
theorem g_same_ff0 (w : World) (b : Bool) (A : Option Addr) (n c : Nat) (D : Option Addr) (m e : Nat) (t : TN) (k : Nat) (h : TK w b A n c D m e false t k) (b' : Bool) (A' : Option Addr) (n' c' : Nat) (D' : Option Addr) (m' e' : Nat) (t' : TN) (k' : Nat) (h' : TK w b' A' n' c' D' m' e' false t' k') (h0 : 0 < k) (hk : k ≤ 1000000) (h0' : 0 < k') (hk' : k' ≤ 1000000) (hs : (t.t - t'.t).num.sign = 0) :
    Calls Tryz.prog 17 #[.agg #[.bool b, .slice A n c, .slice D m e, .bool false], .agg #[.bool b', .slice A' n' c', .slice D' m' e', .bool false]] w (RetV w (.bool true)) := by
  have HS := Lib.hid hs
  clear hs
  go_enter Tryz.func17, Tryz.ntmps17
  go_wp2_with fail
  (with_reducible refine (g_cmp_e _ b A n c D m e ((t).t) (k) ?_ b' A' n' c' D' m' e' ((t').t) (k') ?_ (0) ?_ ?_ ?_ ?_ ?_).mono ?_); (exact (h.belw (((Below.refl _ _).alloc (Nat.le_refl _) _).alloc (by simp) _)).qz); (exact (h'.belw (((Below.refl _ _).alloc (Nat.le_refl _) _).alloc (by simp) _)).qz); (exact HS.out); (first | omega | decide | assumption); (first | omega | decide | assumption); (first | omega | decide | assumption); (first | omega | decide | assumption); rintro e w1 ⟨rfl, hb1⟩
  have q1 : Below w.heap.size w w1 := (((Below.refl _ _).alloc (Nat.le_refl _) _).alloc (by simp) _).trans (hb1.mono (by simp <;> omega))
  replace h := h.belw q1
  replace h' := h'.belw q1
  have x1_0 : Blk w1 (w.heap.size) 26 #[.bool b, .slice A n c, .slice D m e, .bool false] := ((blkAt _ _ _ (by simp)).alloc _).below hb1 (by simp <;> omega)
  have x1_1 : Blk w1 (w.heap.size + 1) 26 #[.bool b', .slice A' n' c', .slice D' m' e', .bool false] := (blkAt _ _ _ (by simp)).below hb1 (by simp)
  have bw1 : Below w.heap.size w w1 := (brefl w).trans (q1.mono (brefl w).size)
  have lw1 : w.heap.size + 2 ≤ w1.heap.size := by have := hb1.size; simp at this; omega
  clear hb1 q1
  go_wp2_with fail
  go_ret
  exact retB rfl bw1
set_option maxRecDepth 100000 in
set_option maxHeartbeats 2000000 in
/-- linkworkref12.Same -/
theorem g_same_ffs (w : World) (b : Bool) (A : Option Addr) (n c : Nat) (D : Option Addr) (m e : Nat) (t : TN) (k : Nat) (h : TK w b A n c D m e false t k) (b' : Bool) (A' : Option Addr) (n' c' : Nat) (D' : Option Addr) (m' e' : Nat) (t' : TN) (k' : Nat) (h' : TK w b' A' n' c' D' m' e' false t' k') (h0 : 0 < k) (hk : k ≤ 1000000) (h0' : 0 < k') (hk' : k' ≤ 1000000) (s : Int) (hs : (t.t - t'.t).num.sign = s) (hne : s ≠ 0) :
    Calls Tryz.prog 17 #[.agg #[.bool b, .slice A n c, .slice D m e, .bool false], .agg #[.bool b', .slice A' n' c', .slice D' m' e', .bool false]] w (RetV w (.bool false)) := by
  have HS := Lib.hid hs
  have e0 : ((s : Int) == 0) = false := by simp; exact hne
  clear hs hne
  go_enter Tryz.func17, Tryz.ntmps17
  go_wp2_with fail
  (with_reducible refine (g_cmp_e _ b A n c D m e ((t).t) (k) ?_ b' A' n' c' D' m' e' ((t').t) (k') ?_ (s) ?_ ?_ ?_ ?_ ?_).mono ?_); (exact (h.belw (((Below.refl _ _).alloc (Nat.le_refl _) _).alloc (by simp) _)).qz); (exact (h'.belw (((Below.refl _ _).alloc (Nat.le_refl _) _).alloc (by simp) _)).qz); (exact HS.out); (first | omega | decide | assumption); (first | omega | decide | assumption); (first | omega | decide | assumption); (first | omega | decide | assumption); rintro e w1 ⟨rfl, hb1⟩
  have q1 : Below w.heap.size w w1 := (((Below.refl _ _).alloc (Nat.le_refl _) _).alloc (by simp) _).trans (hb1.mono (by simp <;> omega))
  replace h := h.belw q1
  replace h' := h'.belw q1
  have x1_0 : Blk w1 (w.heap.size) 26 #[.bool b, .slice A n c, .slice D m e, .bool false] := ((blkAt _ _ _ (by simp)).alloc _).below hb1 (by simp <;> omega)
  have x1_1 : Blk w1 (w.heap.size + 1) 26 #[.bool b', .slice A' n' c', .slice D' m' e', .bool false] := (blkAt _ _ _ (by simp)).below hb1 (by simp)
  have bw1 : Below w.heap.size w w1 := (brefl w).trans (q1.mono (brefl w).size)
  have lw1 : w.heap.size + 2 ≤ w1.heap.size := by have := hb1.size; simp at this; omega
  clear hb1 q1
  go_wp2_with fail
  go_ret
  exact retB rfl bw1
theorem g_same (w : World) (b : Bool) (A : Option Addr) (n c : Nat) (D : Option Addr) (m e : Nat) (x : Bool) (t : TN) (k : Nat) (h : TK w b A n c D m e x t k) (b' : Bool) (A' : Option Addr) (n' c' : Nat) (D' : Option Addr) (m' e' : Nat) (x' : Bool) (t' : TN) (k' : Nat) (h' : TK w b' A' n' c' D' m' e' x' t' k') (h0 : 0 < k) (hk : k ≤ 1000000) (h0' : 0 < k') (hk' : k' ≤ 1000000) (v : Bool) (hv : v = true ↔ t = t') : Calls Tryz.prog 17 #[.agg #[.bool b, .slice A n c, .slice D m e, .bool x], .agg #[.bool b', .slice A' n' c', .slice D' m' e', .bool x']] w (RetV w (.bool v)) := by
  have h1 := h.2.1
  have h2 := h'.2.1
  by_cases he : t = t'
  · have hs : (t.t - t'.t).num.sign = 0 := sub_sign.2 (by rw [he])
    obtain rfl : v = true := hv.2 he
    have hx : x = x' := by rw [h1, h2, he]
    subst hx
    cases x
    · exact g_same_ff0 w b A n c D m e t k h b' A' n' c' D' m' e' t' k' h' h0 hk h0' hk' hs
    · exact g_same_tt0 w b A n c D m e t k h b' A' n' c' D' m' e' t' k' h' h0 hk h0' hk' hs
  · obtain rfl : v = false := by cases v; rfl; exact absurd (hv.1 rfl) he
    by_cases hx : x = x'
    · subst hx
      have hne : (t.t - t'.t).num.sign ≠ 0 := fun z => he (by
        obtain ⟨a, ah⟩ := t
        obtain ⟨a', ah'⟩ := t'
        have := sub_sign.1 z
        simp only at this h1 h2
        rw [this, ← h1, ← h2])
      cases x
      · exact g_same_ffs w b A n c D m e t k h b' A' n' c' D' m' e' t' k' h' h0 hk h0' hk' _ rfl hne
      · exact g_same_tts w b A n c D m e t k h b' A' n' c' D' m' e' t' k' h' h0 hk h0' hk' _ rfl hne
    · cases x <;> cases x'
      · exact absurd rfl hx
      · exact g_same_ft w b A n c D m e t k h b' A' n' c' D' m' e' t' k' h' h0 hk h0' hk'
      · exact g_same_tf w b A n c D m e t k h b' A' n' c' D' m' e' t' k' h' h0 hk h0' hk'
      · exact absurd rfl hx
theorem g_same_e (w : World) (b : Bool) (A : Option Addr) (n c : Nat) (D : Option Addr) (m e : Nat) (x : Bool) (t : TN) (k : Nat) (h : TK w b A n c D m e x t k) (b' : Bool) (A' : Option Addr) (n' c' : Nat) (D' : Option Addr) (m' e' : Nat) (x' : Bool) (t' : TN) (k' : Nat) (h' : TK w b' A' n' c' D' m' e' x' t' k') (v : Bool) (hv : v = true ↔ t = t') (h0 : 0 < k) (hk : k ≤ 1000000) (h0' : 0 < k') (hk' : k' ≤ 1000000) : Calls Tryz.prog 17 #[.agg #[.bool b, .slice A n c, .slice D m e, .bool x], .agg #[.bool b', .slice A' n' c', .slice D' m' e', .bool x']] w (RetV w (.bool v)) := g_same w b A n c D m e x t k h b' A' n' c' D' m' e' x' t' k' h' h0 hk h0' hk' v hv
theorem TK.zero (w : World) : TK w false none 0 0 none 0 0 false tzero 1 := ⟨⟨⟨false, [], []⟩, ⟨rfl, Wd.nil_ w, Wd.nil_ w, Nat.zero_le _, Nat.zero_le _⟩, by rfl, by rfl⟩, rfl, tzero_ok⟩
end Go.Proofs.YtmneloabphplmaaGreat

/- Walks: the reference: products and quotients of fractions. -/
namespace Go.Proofs.YtmneloabphplmaaGreat
open Go Go.RowKit Bn
attribute [local go_sem ↓] Go.wp_at_zero Go.wp_at_succ
set_option maxRecDepth 100000 in
set_option maxHeartbeats 2000000 in
/-- linkworkref02.Of -/
theorem g_of (w : World) (i : Int) (hi : -4294967296 < i) (hi2 : i < 4294967296) :
    Calls Tryz.prog 50 #[.int .i64 i] w (RetF w (i : Rat) 1) := by
  go_enter Tryz.func50, Tryz.ntmps50
  go_wp2_with fail
  (with_reducible refine (r01_of1 _ (i) ?_ ?_).mono ?_); (first | omega | decide | assumption); (first | omega | decide | assumption); rintro e w1 ⟨b1, A1, n1, c1, rfl, h1, hb1⟩
  have q1 : Below w.heap.size w w1 := ((Below.refl _ _).alloc (Nat.le_refl _) _).trans (hb1.mono (by simp))
  have x1_0 : Blk w1 (w.heap.size) 24 #[.bool false, .slice none 0 0, .slice none 0 0] := (blkAt _ _ _ (by simp)).below hb1 (by simp)
  have bw1 : Below w.heap.size w w1 := (brefl w).trans (q1.mono (brefl w).size)
  have lw1 : w.heap.size + 1 ≤ w1.heap.size := by have := hb1.size; simp at this; omega
  clear hb1 q1
  go_wp2_with fail
  (with_reducible refine (g_one _).mono ?_); rintro e w2 ⟨b2, A2, n2, c2, rfl, h2, hb2⟩
  have q2 : Below w1.heap.size w1 w2 := hb2
  replace h1 := h1.belw q2
  replace x1_0 := x1_0.below q2 x1_0.lt
  have bw2 : Below w.heap.size w w2 := bw1.trans (q2.mono bw1.size)
  have lw2 : w1.heap.size ≤ w2.heap.size := q2.size
  clear hb2 q2 bw1
  go_wp2_with fail
  (with_reducible refine (g_form _ b1 A1 n1 c1 (i) (1) ?_ b2 A2 n2 c2 (1) (1) ?_ ((i : Rat)) (1) ?_ ?_ ?_ ?_).mono ?_); (exact h1.iz); (exact h2.iz); (decide); (exact int_q i); (exact Sz_int (by omega) (by decide)); (decide); rintro e w3 ⟨b3, A3, n3, c3, A'3, n'3, c'3, rfl, h3, hb3⟩
  have q3 : Below w2.heap.size w2 w3 := hb3
  replace h1 := h1.belw q3
  replace h2 := h2.belw q3
  replace x1_0 := x1_0.below q3 x1_0.lt
  have bw3 : Below w.heap.size w w3 := bw2.trans (q3.mono bw2.size)
  have lw3 : w2.heap.size ≤ w3.heap.size := q3.size
  clear hb3 q3 bw2
  obtain ⟨cx1_0_0, cx1_0_1, cx1_0_2⟩ := x1_0.c3
  obtain ⟨fx1_0_0, fx1_0_1, fx1_0_2⟩ := x1_0.f3
  obtain ⟨lx1_0_0, lx1_0_1, lx1_0_2, lx1_0_3⟩ := lts0 x1_0.lt
  go_wp2_with fail
  refine bodyPost_ret (v := .agg #[.bool b3, .slice A3 n3 c3, .slice A'3 n'3 c'3]) (by simp [results, Tryz.results50, go_sem, *] <;> first | rfl | exact ⟨rfl, rfl⟩) rfl ?_
  exact ⟨b3, A3, n3, c3, A'3, n'3, c'3, rfl, h3.keep ((((Kp.refl w3).setB (p := ⟨w.heap.size, 0, none⟩) x1_0.box (by decide) (.bool b3)).setB (p := ⟨w.heap.size, 1, none⟩) (x1_0.box.set ⟨w.heap.size, 0, none⟩ (.bool b3)) (by decide) (.slice A3 n3 c3)).setB (p := ⟨w.heap.size, 2, none⟩) ((x1_0.box.set ⟨w.heap.size, 0, none⟩ (.bool b3)).set ⟨w.heap.size, 1, none⟩ (.slice A3 n3 c3)) (by decide) (.slice A'3 n'3 c'3)), (((bw3.setCell (p := ⟨w.heap.size, 0, none⟩) (by dsimp only; omega) (.bool b3)).setCell (p := ⟨w.heap.size, 1, none⟩) (by dsimp only; omega) (.slice A3 n3 c3)).setCell (p := ⟨w.heap.size, 2, none⟩) (by dsimp only; omega) (.slice A'3 n'3 c'3))⟩
set_option maxRecDepth 100000 in
set_option maxHeartbeats 2000000 in
/-- linkworkref02.Mul -/
theorem g_mul (w : World) (b : Bool) (A : Option Addr) (n c : Nat) (D : Option Addr) (m e : Nat) (q : Rat) (k : Nat) (h : QZ w b A n c D m e q k) (b' : Bool) (A' : Option Addr) (n' c' : Nat) (D' : Option Addr) (m' e' : Nat) (q' : Rat) (k' : Nat) (h' : QZ w b' A' n' c' D' m' e' q' k') (h0 : 0 < k) (hk : k ≤ 40000000) (h0' : 0 < k') (hk' : k' ≤ 40000000) :
    Calls Tryz.prog 44 #[.agg #[.bool b, .slice A n c, .slice D m e], .agg #[.bool b', .slice A' n' c', .slice D' m' e']] w (RetF w (q * q') (k + k')) := by
  have HS := Lib.hid (h.sz h0)
  have HS' := Lib.hid (h'.sz h0')
  go_enter Tryz.func44, Tryz.ntmps44
  go_wp2_with fail
  (with_reducible refine (g_parts _ b A n c D m e (q) (k) ?_ ?_ ?_).mono ?_); (exact (h.belw ((((Below.refl _ _).alloc (Nat.le_refl _) _).alloc (by simp) _).alloc (by simp <;> omega) _))); (first | omega | decide | assumption); (first | omega | decide | assumption); rintro e w1 ⟨b1, A1, n1, c1, b'1, A'1, n'1, c'1, rfl, h1, h'1, hb1⟩
  have q1 : Below w.heap.size w w1 := ((((Below.refl _ _).alloc (Nat.le_refl _) _).alloc (by simp) _).alloc (by simp <;> omega) _).trans (hb1.mono (by simp <;> omega))
  replace h := h.belw q1
  replace h' := h'.belw q1
  have x1_0 : Blk w1 (w.heap.size) 24 #[.bool b, .slice A n c, .slice D m e] := (((blkAt _ _ _ (by simp)).alloc _).alloc _).below hb1 (by simp <;> omega)
  have x1_1 : Blk w1 (w.heap.size + 1) 24 #[.bool b', .slice A' n' c', .slice D' m' e'] := ((blkAt _ _ _ (by simp)).alloc _).below hb1 (by simp <;> omega)
  have x1_2 : Blk w1 (w.heap.size + 1 + 1) 24 #[.bool false, .slice none 0 0, .slice none 0 0] := (blkAt _ _ _ (by simp)).below hb1 (by simp)
  have bw1 : Below w.heap.size w w1 := (brefl w).trans (q1.mono (brefl w).size)
  have lw1 : w.heap.size + 3 ≤ w1.heap.size := by have := hb1.size; simp at this; omega
  clear hb1 q1
  obtain ⟨cx1_1_0, cx1_1_1, cx1_1_2⟩ := x1_1.c3
  obtain ⟨lx1_1_0, lx1_1_1, lx1_1_2, lx1_1_3⟩ := lts1 x1_1.lt
  go_wp2_with fail
  (with_reducible refine (g_parts _ b' A' n' c' D' m' e' (q') (k') ?_ ?_ ?_).mono ?_); (exact (h'.belw (((Below.refl _ _).alloc (Nat.le_refl _) _).alloc (by simp) _))); (first | omega | decide | assumption); (first | omega | decide | assumption); rintro e w2 ⟨b2, A2, n2, c2, b'2, A'2, n'2, c'2, rfl, h2, h'2, hb2⟩
  clear cx1_1_0 cx1_1_1 cx1_1_2 lx1_1_0 lx1_1_1 lx1_1_2 lx1_1_3
  have q2 : Below w1.heap.size w1 w2 := (((Below.refl _ _).alloc (Nat.le_refl _) _).alloc (by simp) _).trans (hb2.mono (by simp <;> omega))
  replace h := h.belw q2
  replace h' := h'.belw q2
  replace h1 := h1.belw q2
  replace h'1 := h'1.belw q2
  replace x1_0 := x1_0.below q2 x1_0.lt
  replace x1_1 := x1_1.below q2 x1_1.lt
  replace x1_2 := x1_2.below q2 x1_2.lt
  have x2_0 : Blk w2 (w1.heap.size) 77 #[.bool b1, .slice A1 n1 c1] := ((blkAt _ _ _ (by simp)).alloc _).below hb2 (by simp <;> omega)
  have x2_1 : Blk w2 (w1.heap.size + 1) 77 #[.bool b'1, .slice A'1 n'1 c'1] := (blkAt _ _ _ (by simp)).below hb2 (by simp)
  have bw2 : Below w.heap.size w w2 := bw1.trans (q2.mono bw1.size)
  have lw2 : w1.heap.size + 2 ≤ w2.heap.size := by have := hb2.size; simp at this; omega
  clear hb2 q2 bw1
  go_wp2_with fail
  have p3 : Kp w2 ((w2.alloc (.cells #[.bool b2, .slice A2 n2 c2] 77)).alloc (.cells #[.bool b'2, .slice A'2 n'2 c'2] 77)) := (((Kp.refl w2).alloc (.cells #[.bool b2, .slice A2 n2 c2] 77)).alloc (.cells #[.bool b'2, .slice A'2 n'2 c'2] 77))
  have bw3 : Below w.heap.size w ((w2.alloc (.cells #[.bool b2, .slice A2 n2 c2] 77)).alloc (.cells #[.bool b'2, .slice A'2 n'2 c'2] 77)) := ((bw2.alloc (by first | omega | (simp <;> omega)) (.cells #[.bool b2, .slice A2 n2 c2] 77)).alloc (by first | omega | (simp <;> omega)) (.cells #[.bool b'2, .slice A'2 n'2 c'2] 77))
  have x3_0 : Blk ((w2.alloc (.cells #[.bool b2, .slice A2 n2 c2] 77)).alloc (.cells #[.bool b'2, .slice A'2 n'2 c'2] 77)) (w2.heap.size) 77 #[.bool b2, .slice A2 n2 c2] := ((blkAt _ _ _ (by simp)).alloc (.cells #[.bool b'2, .slice A'2 n'2 c'2] 77))
  have x3_1 : Blk ((w2.alloc (.cells #[.bool b2, .slice A2 n2 c2] 77)).alloc (.cells #[.bool b'2, .slice A'2 n'2 c'2] 77)) (w2.heap.size + 1) 77 #[.bool b'2, .slice A'2 n'2 c'2] := (blkAt _ _ _ (by simp))
  replace x1_0 : Blk ((w2.alloc (.cells #[.bool b2, .slice A2 n2 c2] 77)).alloc (.cells #[.bool b'2, .slice A'2 n'2 c'2] 77)) (w.heap.size) 24 #[.bool b, .slice A n c, .slice D m e] := ((x1_0.alloc (.cells #[.bool b2, .slice A2 n2 c2] 77)).alloc (.cells #[.bool b'2, .slice A'2 n'2 c'2] 77))
  replace x1_1 : Blk ((w2.alloc (.cells #[.bool b2, .slice A2 n2 c2] 77)).alloc (.cells #[.bool b'2, .slice A'2 n'2 c'2] 77)) (w.heap.size + 1) 24 #[.bool b', .slice A' n' c', .slice D' m' e'] := ((x1_1.alloc (.cells #[.bool b2, .slice A2 n2 c2] 77)).alloc (.cells #[.bool b'2, .slice A'2 n'2 c'2] 77))
  replace x1_2 : Blk ((w2.alloc (.cells #[.bool b2, .slice A2 n2 c2] 77)).alloc (.cells #[.bool b'2, .slice A'2 n'2 c'2] 77)) (w.heap.size + 1 + 1) 24 #[.bool false, .slice none 0 0, .slice none 0 0] := ((x1_2.alloc (.cells #[.bool b2, .slice A2 n2 c2] 77)).alloc (.cells #[.bool b'2, .slice A'2 n'2 c'2] 77))
  replace x2_0 : Blk ((w2.alloc (.cells #[.bool b2, .slice A2 n2 c2] 77)).alloc (.cells #[.bool b'2, .slice A'2 n'2 c'2] 77)) (w1.heap.size) 77 #[.bool b1, .slice A1 n1 c1] := ((x2_0.alloc (.cells #[.bool b2, .slice A2 n2 c2] 77)).alloc (.cells #[.bool b'2, .slice A'2 n'2 c'2] 77))
  replace x2_1 : Blk ((w2.alloc (.cells #[.bool b2, .slice A2 n2 c2] 77)).alloc (.cells #[.bool b'2, .slice A'2 n'2 c'2] 77)) (w1.heap.size + 1) 77 #[.bool b'1, .slice A'1 n'1 c'1] := ((x2_1.alloc (.cells #[.bool b2, .slice A2 n2 c2] 77)).alloc (.cells #[.bool b'2, .slice A'2 n'2 c'2] 77))
  have lw3 : w2.heap.size + 2 ≤ ((w2.alloc (.cells #[.bool b2, .slice A2 n2 c2] 77)).alloc (.cells #[.bool b'2, .slice A'2 n'2 c'2] 77)).heap.size := by simp
  generalize hE3 : ((w2.alloc (.cells #[.bool b2, .slice A2 n2 c2] 77)).alloc (.cells #[.bool b'2, .slice A'2 n'2 c'2] 77)) = w3 at p3 bw3 lw3 x3_0 x3_1 x1_0 x1_1 x1_2 x2_0 x2_1 ⊢
  clear hE3
  replace h := h.keep p3
  replace h' := h'.keep p3
  replace h1 := h1.keep p3
  replace h'1 := h'1.keep p3
  replace h2 := h2.keep p3
  replace h'2 := h'2.keep p3
  clear bw2
  obtain ⟨lx1_0_0, lx1_0_1, lx1_0_2, lx1_0_3⟩ := lts0 x1_0.lt
  obtain ⟨lx1_1_0, lx1_1_1, lx1_1_2, lx1_1_3⟩ := lts1 x1_1.lt
  have cx1_2_0 : w3.cell? ⟨w.heap.size + 1 + 1, 0, none⟩ = some (.bool false) := x1_2.cell 0
  have fx1_2_0 : w3.frozen? ⟨w.heap.size + 1 + 1, 0, none⟩ = false := x1_2.frozen 0
  have cx1_2_1 : w3.cell? ⟨w.heap.size + 1 + 1, 1, none⟩ = some (.slice none 0 0) := x1_2.cell 1
  have fx1_2_1 : w3.frozen? ⟨w.heap.size + 1 + 1, 1, none⟩ = false := x1_2.frozen 1
  have cx1_2_2 : w3.cell? ⟨w.heap.size + 1 + 1, 2, none⟩ = some (.slice none 0 0) := x1_2.cell 2
  have fx1_2_2 : w3.frozen? ⟨w.heap.size + 1 + 1, 2, none⟩ = false := x1_2.frozen 2
  obtain ⟨lx1_2_0, lx1_2_1, lx1_2_2, lx1_2_3⟩ := lts2 x1_2.lt
  obtain ⟨cx2_0_0, cx2_0_1⟩ := x2_0.c2
  obtain ⟨lx2_0_0, lx2_0_1, lx2_0_2, lx2_0_3⟩ := lts0 x2_0.lt
  obtain ⟨cx2_1_0, cx2_1_1⟩ := x2_1.c2
  obtain ⟨lx2_1_0, lx2_1_1, lx2_1_2, lx2_1_3⟩ := lts1 x2_1.lt
  obtain ⟨cx3_0_0, cx3_0_1⟩ := x3_0.c2
  obtain ⟨lx3_0_0, lx3_0_1, lx3_0_2, lx3_0_3⟩ := lts0 x3_0.lt
  obtain ⟨cx3_1_0, cx3_1_1⟩ := x3_1.c2
  obtain ⟨lx3_1_0, lx3_1_1, lx3_1_2, lx3_1_3⟩ := lts1 x3_1.lt
  have nfx1_0_0 : ¬ w.heap.size = w.heap.size + 1 + 1 := by omega
  have nex1_0_0 : ¬ w.heap.size = w.heap.size + 2 := by omega
  have nfx1_1_0 : ¬ w.heap.size + 1 = w.heap.size + 1 + 1 := by omega
  have nex1_1_0 : ¬ w.heap.size = w.heap.size + 1 := by omega
  have nfx2_0_0 : ¬ w1.heap.size = w.heap.size + 1 + 1 := by omega
  have nex2_0_0 : ¬ w1.heap.size = w.heap.size + 2 := by omega
  have nfx2_1_0 : ¬ w1.heap.size + 1 = w.heap.size + 1 + 1 := by omega
  have nex2_1_0 : ¬ w1.heap.size = w.heap.size + 1 := by omega
  have nfx3_0_0 : ¬ w2.heap.size = w.heap.size + 1 + 1 := by omega
  have nex3_0_0 : ¬ w2.heap.size = w.heap.size + 2 := by omega
  have nfx3_1_0 : ¬ w2.heap.size + 1 = w.heap.size + 1 + 1 := by omega
  have nex3_1_0 : ¬ w2.heap.size = w.heap.size + 1 := by omega
  go_region_held3 (fun w' => SeesX w3.heap.size (w.heap.size + 1 + 1) w3 w') (first | with_reducible exact SeesX.of (Nat.le_refl _) (by assumption) | with_reducible exact SeesX.of (Nat.le_refl _) (brefl _).drew | with_reducible exact (SeesX.set (SeesX.set (SeesX.set (SeesX.of (Nat.le_refl _) (by assumption))))) | with_reducible exact (SeesX.set (SeesX.set (SeesX.of (Nat.le_refl _) (by assumption)))) | with_reducible exact (SeesX.set (SeesX.of (Nat.le_refl _) (by assumption))) | exact SeesX.of (Nat.le_refl _) (below_drewN (brefl _) 1) | exact SeesX.of (Nat.le_refl _) (below_drewN (by assumption) _))
    (first
      | (go_at_call 72; (with_reducible refine (r01_mul _ b1 A1 n1 c1 ((q).num) ((k)) ?_ b2 A2 n2 c2 ((q').num) ((k')) ?_ ?_).mono ?_); (exact h1.iz); (exact h2.iz); (first | omega | decide | assumption); rintro e w4 ⟨b4, A4, n4, c4, rfl, h4, hb4⟩; replace hb4 := bnext (below_drewN (brefl _) 1) hb4; have q4 : Below w3.heap.size w3 w4 := bnext (brefl w3) hb4; replace h := h.belw hb4; replace h' := h'.belw hb4; replace h1 := h1.belw hb4; replace h'1 := h'1.belw hb4; replace h2 := h2.belw hb4; replace h'2 := h'2.belw hb4)
      | (go_at_call 72; (with_reducible refine (r01_mul _ b'1 A'1 n'1 c'1 (((q).den : Int)) ((k)) ?_ b'2 A'2 n'2 c'2 (((q').den : Int)) ((k')) ?_ ?_).mono ?_); (exact h'1.iz); (exact h'2.iz); (first | omega | decide | assumption); rintro e w5 ⟨b5, A5, n5, c5, rfl, h5, hb5⟩; have q5 : Below w3.heap.size w3 w5 := bnext q4 hb5; replace h := h.belw hb5; replace h' := h'.belw hb5; replace h1 := h1.belw hb5; replace h'1 := h'1.belw hb5; replace h2 := h2.belw hb5; replace h'2 := h'2.belw hb5; replace h4 := h4.belw hb5)
      | (go_at_call 71; (with_reducible refine (g_form _ b4 A4 n4 c4 (((q).num) * ((q').num)) (((k)) + ((k'))) ?_ b5 A5 n5 c5 ((((q).den : Int)) * (((q').den : Int))) (((k)) + ((k'))) ?_ (q * q') (k + k') ?_ ?_ ?_ ?_).mono ?_); (exact h4.iz); (exact h5.iz); (exact Int.mul_ne_zero (den_ne _) (den_ne _)); (exact (mul_q _ _).symm); (exact Sz_mul HS.out HS'.out); (omega); rintro e w6 ⟨b6, A6, n6, c6, A'6, n'6, c'6, rfl, h6, hb6⟩; have q6 : Below w3.heap.size w3 w6 := bnext q5 hb6; replace h := h.belw hb6; replace h' := h'.belw hb6; replace h1 := h1.belw hb6; replace h'1 := h'1.belw hb6; replace h2 := h2.belw hb6; replace h'2 := h'2.belw hb6; replace h4 := h4.belw hb6; replace h5 := h5.belw hb6; have x1_2 : Blk w6 (w.heap.size + 1 + 1) 24 #[.bool false, .slice none 0 0, .slice none 0 0] := x1_2.below q6 x1_2.lt; obtain ⟨cx1_2_0, cx1_2_1, cx1_2_2⟩ := x1_2.c3; obtain ⟨fx1_2_0, fx1_2_1, fx1_2_2⟩ := x1_2.f3))
  have bw6 : Below w.heap.size w w6 := bw3.trans (q6.mono bw3.size)
  clear lx1_0_0 lx1_0_1 lx1_0_2 lx1_0_3 lx1_1_0 lx1_1_1 lx1_1_2 lx1_1_3 cx1_2_0 fx1_2_0 cx1_2_1 fx1_2_1 cx1_2_2 fx1_2_2 lx1_2_0 lx1_2_1 lx1_2_2 lx1_2_3 cx2_0_0 cx2_0_1 lx2_0_0 lx2_0_1 lx2_0_2 lx2_0_3 cx2_1_0 cx2_1_1 lx2_1_0 lx2_1_1 lx2_1_2 lx2_1_3 cx3_0_0 cx3_0_1 lx3_0_0 lx3_0_1 lx3_0_2 lx3_0_3 cx3_1_0 cx3_1_1 lx3_1_0 lx3_1_1 lx3_1_2 lx3_1_3
  replace x1_0 := x1_0.below q6 x1_0.lt
  replace x1_1 := x1_1.below q6 x1_1.lt
  replace x2_0 := x2_0.below q6 x2_0.lt
  replace x2_1 := x2_1.below q6 x2_1.lt
  replace x3_0 := x3_0.below q6 x3_0.lt
  replace x3_1 := x3_1.below q6 x3_1.lt
  have lw6 : w3.heap.size ≤ w6.heap.size := q6.size
  obtain ⟨cx1_2_0, cx1_2_1, cx1_2_2⟩ := x1_2.c3
  obtain ⟨fx1_2_0, fx1_2_1, fx1_2_2⟩ := x1_2.f3
  go_wp2_with fail
  refine bodyPost_ret (v := .agg #[.bool b6, .slice A6 n6 c6, .slice A'6 n'6 c'6]) (by simp [results, Tryz.results44, go_sem, *] <;> first | rfl | exact ⟨rfl, rfl⟩) rfl ?_
  exact ⟨b6, A6, n6, c6, A'6, n'6, c'6, rfl, h6.keep ((((Kp.refl w6).setB (p := ⟨w.heap.size + 1 + 1, 0, none⟩) x1_2.box (by decide) (.bool b6)).setB (p := ⟨w.heap.size + 1 + 1, 1, none⟩) (x1_2.box.set ⟨w.heap.size + 1 + 1, 0, none⟩ (.bool b6)) (by decide) (.slice A6 n6 c6)).setB (p := ⟨w.heap.size + 1 + 1, 2, none⟩) ((x1_2.box.set ⟨w.heap.size + 1 + 1, 0, none⟩ (.bool b6)).set ⟨w.heap.size + 1 + 1, 1, none⟩ (.slice A6 n6 c6)) (by decide) (.slice A'6 n'6 c'6)), (((bw6.setCell (p := ⟨w.heap.size + 1 + 1, 0, none⟩) (by dsimp only; omega) (.bool b6)).setCell (p := ⟨w.heap.size + 1 + 1, 1, none⟩) (by dsimp only; omega) (.slice A6 n6 c6)).setCell (p := ⟨w.heap.size + 1 + 1, 2, none⟩) (by dsimp only; omega) (.slice A'6 n'6 c'6))⟩
set_option maxRecDepth 100000 in
set_option maxHeartbeats 2000000 in
/-- linkworkref02.Div -/
theorem g_div (w : World) (b : Bool) (A : Option Addr) (n c : Nat) (D : Option Addr) (m e : Nat) (q : Rat) (k : Nat) (h : QZ w b A n c D m e q k) (b' : Bool) (A' : Option Addr) (n' c' : Nat) (D' : Option Addr) (m' e' : Nat) (q' : Rat) (k' : Nat) (h' : QZ w b' A' n' c' D' m' e' q' k') (h0 : 0 < k) (hk : k ≤ 40000000) (h0' : 0 < k') (hk' : k' ≤ 40000000) (hne : q' ≠ 0) :
    Calls Tryz.prog 75 #[.agg #[.bool b, .slice A n c, .slice D m e], .agg #[.bool b', .slice A' n' c', .slice D' m' e']] w (RetFe w (.int .i64 0) (q / q') (k + k')) := by
  have HS := Lib.hid (h.sz h0)
  have HS' := Lib.hid (h'.sz h0')
  have HN := Lib.hid hne
  clear hne
  go_enter Tryz.func75, Tryz.ntmps75
  go_wp2_with fail
  (with_reducible refine (g_parts _ b A n c D m e (q) (k) ?_ ?_ ?_).mono ?_); (exact (h.belw ((((Below.refl _ _).alloc (Nat.le_refl _) _).alloc (by simp) _).alloc (by simp <;> omega) _))); (first | omega | decide | assumption); (first | omega | decide | assumption); rintro e w1 ⟨b1, A1, n1, c1, b'1, A'1, n'1, c'1, rfl, h1, h'1, hb1⟩
  have q1 : Below w.heap.size w w1 := ((((Below.refl _ _).alloc (Nat.le_refl _) _).alloc (by simp) _).alloc (by simp <;> omega) _).trans (hb1.mono (by simp <;> omega))
  replace h := h.belw q1
  replace h' := h'.belw q1
  have x1_0 : Blk w1 (w.heap.size) 24 #[.bool b, .slice A n c, .slice D m e] := (((blkAt _ _ _ (by simp)).alloc _).alloc _).below hb1 (by simp <;> omega)
  have x1_1 : Blk w1 (w.heap.size + 1) 24 #[.bool b', .slice A' n' c', .slice D' m' e'] := ((blkAt _ _ _ (by simp)).alloc _).below hb1 (by simp <;> omega)
  have x1_2 : Blk w1 (w.heap.size + 1 + 1) 24 #[.bool false, .slice none 0 0, .slice none 0 0] := (blkAt _ _ _ (by simp)).below hb1 (by simp)
  have bw1 : Below w.heap.size w w1 := (brefl w).trans (q1.mono (brefl w).size)
  have lw1 : w.heap.size + 3 ≤ w1.heap.size := by have := hb1.size; simp at this; omega
  clear hb1 q1
  obtain ⟨cx1_1_0, cx1_1_1, cx1_1_2⟩ := x1_1.c3
  obtain ⟨lx1_1_0, lx1_1_1, lx1_1_2, lx1_1_3⟩ := lts1 x1_1.lt
  go_wp2_with fail
  (with_reducible refine (g_parts _ b' A' n' c' D' m' e' (q') (k') ?_ ?_ ?_).mono ?_); (exact (h'.belw (((Below.refl _ _).alloc (Nat.le_refl _) _).alloc (by simp) _))); (first | omega | decide | assumption); (first | omega | decide | assumption); rintro e w2 ⟨b2, A2, n2, c2, b'2, A'2, n'2, c'2, rfl, h2, h'2, hb2⟩
  clear cx1_1_0 cx1_1_1 cx1_1_2 lx1_1_0 lx1_1_1 lx1_1_2 lx1_1_3
  have q2 : Below w1.heap.size w1 w2 := (((Below.refl _ _).alloc (Nat.le_refl _) _).alloc (by simp) _).trans (hb2.mono (by simp <;> omega))
  replace h := h.belw q2
  replace h' := h'.belw q2
  replace h1 := h1.belw q2
  replace h'1 := h'1.belw q2
  replace x1_0 := x1_0.below q2 x1_0.lt
  replace x1_1 := x1_1.below q2 x1_1.lt
  replace x1_2 := x1_2.below q2 x1_2.lt
  have x2_0 : Blk w2 (w1.heap.size) 77 #[.bool b1, .slice A1 n1 c1] := ((blkAt _ _ _ (by simp)).alloc _).below hb2 (by simp <;> omega)
  have x2_1 : Blk w2 (w1.heap.size + 1) 77 #[.bool b'1, .slice A'1 n'1 c'1] := (blkAt _ _ _ (by simp)).below hb2 (by simp)
  have bw2 : Below w.heap.size w w2 := bw1.trans (q2.mono bw1.size)
  have lw2 : w1.heap.size + 2 ≤ w2.heap.size := by have := hb2.size; simp at this; omega
  clear hb2 q2 bw1
  go_wp2_with fail
  have p3 : Kp w2 ((w2.alloc (.cells #[.bool b2, .slice A2 n2 c2] 77)).alloc (.cells #[.bool b'2, .slice A'2 n'2 c'2] 77)) := (((Kp.refl w2).alloc (.cells #[.bool b2, .slice A2 n2 c2] 77)).alloc (.cells #[.bool b'2, .slice A'2 n'2 c'2] 77))
  have bw3 : Below w.heap.size w ((w2.alloc (.cells #[.bool b2, .slice A2 n2 c2] 77)).alloc (.cells #[.bool b'2, .slice A'2 n'2 c'2] 77)) := ((bw2.alloc (by first | omega | (simp <;> omega)) (.cells #[.bool b2, .slice A2 n2 c2] 77)).alloc (by first | omega | (simp <;> omega)) (.cells #[.bool b'2, .slice A'2 n'2 c'2] 77))
  have x3_0 : Blk ((w2.alloc (.cells #[.bool b2, .slice A2 n2 c2] 77)).alloc (.cells #[.bool b'2, .slice A'2 n'2 c'2] 77)) (w2.heap.size) 77 #[.bool b2, .slice A2 n2 c2] := ((blkAt _ _ _ (by simp)).alloc (.cells #[.bool b'2, .slice A'2 n'2 c'2] 77))
  have x3_1 : Blk ((w2.alloc (.cells #[.bool b2, .slice A2 n2 c2] 77)).alloc (.cells #[.bool b'2, .slice A'2 n'2 c'2] 77)) (w2.heap.size + 1) 77 #[.bool b'2, .slice A'2 n'2 c'2] := (blkAt _ _ _ (by simp))
  replace x1_0 : Blk ((w2.alloc (.cells #[.bool b2, .slice A2 n2 c2] 77)).alloc (.cells #[.bool b'2, .slice A'2 n'2 c'2] 77)) (w.heap.size) 24 #[.bool b, .slice A n c, .slice D m e] := ((x1_0.alloc (.cells #[.bool b2, .slice A2 n2 c2] 77)).alloc (.cells #[.bool b'2, .slice A'2 n'2 c'2] 77))
  replace x1_1 : Blk ((w2.alloc (.cells #[.bool b2, .slice A2 n2 c2] 77)).alloc (.cells #[.bool b'2, .slice A'2 n'2 c'2] 77)) (w.heap.size + 1) 24 #[.bool b', .slice A' n' c', .slice D' m' e'] := ((x1_1.alloc (.cells #[.bool b2, .slice A2 n2 c2] 77)).alloc (.cells #[.bool b'2, .slice A'2 n'2 c'2] 77))
  replace x1_2 : Blk ((w2.alloc (.cells #[.bool b2, .slice A2 n2 c2] 77)).alloc (.cells #[.bool b'2, .slice A'2 n'2 c'2] 77)) (w.heap.size + 1 + 1) 24 #[.bool false, .slice none 0 0, .slice none 0 0] := ((x1_2.alloc (.cells #[.bool b2, .slice A2 n2 c2] 77)).alloc (.cells #[.bool b'2, .slice A'2 n'2 c'2] 77))
  replace x2_0 : Blk ((w2.alloc (.cells #[.bool b2, .slice A2 n2 c2] 77)).alloc (.cells #[.bool b'2, .slice A'2 n'2 c'2] 77)) (w1.heap.size) 77 #[.bool b1, .slice A1 n1 c1] := ((x2_0.alloc (.cells #[.bool b2, .slice A2 n2 c2] 77)).alloc (.cells #[.bool b'2, .slice A'2 n'2 c'2] 77))
  replace x2_1 : Blk ((w2.alloc (.cells #[.bool b2, .slice A2 n2 c2] 77)).alloc (.cells #[.bool b'2, .slice A'2 n'2 c'2] 77)) (w1.heap.size + 1) 77 #[.bool b'1, .slice A'1 n'1 c'1] := ((x2_1.alloc (.cells #[.bool b2, .slice A2 n2 c2] 77)).alloc (.cells #[.bool b'2, .slice A'2 n'2 c'2] 77))
  have lw3 : w2.heap.size + 2 ≤ ((w2.alloc (.cells #[.bool b2, .slice A2 n2 c2] 77)).alloc (.cells #[.bool b'2, .slice A'2 n'2 c'2] 77)).heap.size := by simp
  generalize hE3 : ((w2.alloc (.cells #[.bool b2, .slice A2 n2 c2] 77)).alloc (.cells #[.bool b'2, .slice A'2 n'2 c'2] 77)) = w3 at p3 bw3 lw3 x3_0 x3_1 x1_0 x1_1 x1_2 x2_0 x2_1 ⊢
  clear hE3
  replace h := h.keep p3
  replace h' := h'.keep p3
  replace h1 := h1.keep p3
  replace h'1 := h'1.keep p3
  replace h2 := h2.keep p3
  replace h'2 := h'2.keep p3
  clear bw2
  obtain ⟨lx1_0_0, lx1_0_1, lx1_0_2, lx1_0_3⟩ := lts0 x1_0.lt
  obtain ⟨lx1_1_0, lx1_1_1, lx1_1_2, lx1_1_3⟩ := lts1 x1_1.lt
  have cx1_2_0 : w3.cell? ⟨w.heap.size + 1 + 1, 0, none⟩ = some (.bool false) := x1_2.cell 0
  have fx1_2_0 : w3.frozen? ⟨w.heap.size + 1 + 1, 0, none⟩ = false := x1_2.frozen 0
  have cx1_2_1 : w3.cell? ⟨w.heap.size + 1 + 1, 1, none⟩ = some (.slice none 0 0) := x1_2.cell 1
  have fx1_2_1 : w3.frozen? ⟨w.heap.size + 1 + 1, 1, none⟩ = false := x1_2.frozen 1
  have cx1_2_2 : w3.cell? ⟨w.heap.size + 1 + 1, 2, none⟩ = some (.slice none 0 0) := x1_2.cell 2
  have fx1_2_2 : w3.frozen? ⟨w.heap.size + 1 + 1, 2, none⟩ = false := x1_2.frozen 2
  obtain ⟨lx1_2_0, lx1_2_1, lx1_2_2, lx1_2_3⟩ := lts2 x1_2.lt
  obtain ⟨cx2_0_0, cx2_0_1⟩ := x2_0.c2
  obtain ⟨lx2_0_0, lx2_0_1, lx2_0_2, lx2_0_3⟩ := lts0 x2_0.lt
  obtain ⟨cx2_1_0, cx2_1_1⟩ := x2_1.c2
  obtain ⟨lx2_1_0, lx2_1_1, lx2_1_2, lx2_1_3⟩ := lts1 x2_1.lt
  obtain ⟨cx3_0_0, cx3_0_1⟩ := x3_0.c2
  obtain ⟨lx3_0_0, lx3_0_1, lx3_0_2, lx3_0_3⟩ := lts0 x3_0.lt
  obtain ⟨cx3_1_0, cx3_1_1⟩ := x3_1.c2
  obtain ⟨lx3_1_0, lx3_1_1, lx3_1_2, lx3_1_3⟩ := lts1 x3_1.lt
  have nfx1_0_0 : ¬ w.heap.size = w.heap.size + 1 + 1 := by omega
  have nex1_0_0 : ¬ w.heap.size = w.heap.size + 2 := by omega
  have nfx1_1_0 : ¬ w.heap.size + 1 = w.heap.size + 1 + 1 := by omega
  have nex1_1_0 : ¬ w.heap.size = w.heap.size + 1 := by omega
  have nfx2_0_0 : ¬ w1.heap.size = w.heap.size + 1 + 1 := by omega
  have nex2_0_0 : ¬ w1.heap.size = w.heap.size + 2 := by omega
  have nfx2_1_0 : ¬ w1.heap.size + 1 = w.heap.size + 1 + 1 := by omega
  have nex2_1_0 : ¬ w1.heap.size = w.heap.size + 1 := by omega
  have nfx3_0_0 : ¬ w2.heap.size = w.heap.size + 1 + 1 := by omega
  have nex3_0_0 : ¬ w2.heap.size = w.heap.size + 2 := by omega
  have nfx3_1_0 : ¬ w2.heap.size + 1 = w.heap.size + 1 + 1 := by omega
  have nex3_1_0 : ¬ w2.heap.size = w.heap.size + 1 := by omega
  go_region_held3 (fun w' => SeesX w3.heap.size (w.heap.size + 1 + 1) w3 w') (first | with_reducible exact SeesX.of (Nat.le_refl _) (by assumption) | with_reducible exact SeesX.of (Nat.le_refl _) (brefl _).drew | with_reducible exact (SeesX.set (SeesX.set (SeesX.set (SeesX.of (Nat.le_refl _) (by assumption))))) | with_reducible exact (SeesX.set (SeesX.set (SeesX.of (Nat.le_refl _) (by assumption)))) | with_reducible exact (SeesX.set (SeesX.of (Nat.le_refl _) (by assumption))) | exact SeesX.of (Nat.le_refl _) (below_drewN (brefl _) 1) | exact SeesX.of (Nat.le_refl _) (below_drewN (by assumption) _))
    (first
      | (go_at_call 72; (with_reducible refine (r01_mul _ b1 A1 n1 c1 ((q).num) ((k)) ?_ b'2 A'2 n'2 c'2 (((q').den : Int)) ((k')) ?_ ?_).mono ?_); (exact h1.iz); (exact h'2.iz); (first | omega | decide | assumption); rintro e w4 ⟨b4, A4, n4, c4, rfl, h4, hb4⟩; replace hb4 := bnext (below_drewN (brefl _) 1) hb4; have q4 : Below w3.heap.size w3 w4 := bnext (brefl w3) hb4; replace h := h.belw hb4; replace h' := h'.belw hb4; replace h1 := h1.belw hb4; replace h'1 := h'1.belw hb4; replace h2 := h2.belw hb4; replace h'2 := h'2.belw hb4)
      | (go_at_call 72; (with_reducible refine (r01_mul _ b'1 A'1 n'1 c'1 (((q).den : Int)) ((k)) ?_ b2 A2 n2 c2 ((q').num) ((k')) ?_ ?_).mono ?_); (exact h'1.iz); (exact h2.iz); (first | omega | decide | assumption); rintro e w5 ⟨b5, A5, n5, c5, rfl, h5, hb5⟩; have q5 : Below w3.heap.size w3 w5 := bnext q4 hb5; replace h := h.belw hb5; replace h' := h'.belw hb5; replace h1 := h1.belw hb5; replace h'1 := h'1.belw hb5; replace h2 := h2.belw hb5; replace h'2 := h'2.belw hb5; replace h4 := h4.belw hb5)
      | (go_at_call 77; (with_reducible refine (g_from _ b4 A4 n4 c4 (((q).num) * (((q').den : Int))) (((k)) + ((k'))) ?_ b5 A5 n5 c5 ((((q).den : Int)) * ((q').num)) (((k)) + ((k'))) ?_ (q / q') (k + k') ?_ ?_ ?_ ?_).mono ?_); (exact h4.iz); (exact h5.iz); (exact Int.mul_ne_zero (den_ne _) (fun x => HN.out (Rat.num_eq_zero.1 x))); (exact (div_q _ _ HN.out).symm); (exact Sz_div HS.out HS'.out HN.out); (omega); rintro e w6 ⟨b6, A6, n6, c6, A'6, n'6, c'6, rfl, h6, hb6⟩; have q6 : Below w3.heap.size w3 w6 := bnext q5 hb6; replace h := h.belw hb6; replace h' := h'.belw hb6; replace h1 := h1.belw hb6; replace h'1 := h'1.belw hb6; replace h2 := h2.belw hb6; replace h'2 := h'2.belw hb6; replace h4 := h4.belw hb6; replace h5 := h5.belw hb6; have x1_2 : Blk w6 (w.heap.size + 1 + 1) 24 #[.bool false, .slice none 0 0, .slice none 0 0] := x1_2.below q6 x1_2.lt; obtain ⟨cx1_2_0, cx1_2_1, cx1_2_2⟩ := x1_2.c3; obtain ⟨fx1_2_0, fx1_2_1, fx1_2_2⟩ := x1_2.f3))
  have bw6 : Below w.heap.size w w6 := bw3.trans (q6.mono bw3.size)
  clear lx1_0_0 lx1_0_1 lx1_0_2 lx1_0_3 lx1_1_0 lx1_1_1 lx1_1_2 lx1_1_3 cx1_2_0 fx1_2_0 cx1_2_1 fx1_2_1 cx1_2_2 fx1_2_2 lx1_2_0 lx1_2_1 lx1_2_2 lx1_2_3 cx2_0_0 cx2_0_1 lx2_0_0 lx2_0_1 lx2_0_2 lx2_0_3 cx2_1_0 cx2_1_1 lx2_1_0 lx2_1_1 lx2_1_2 lx2_1_3 cx3_0_0 cx3_0_1 lx3_0_0 lx3_0_1 lx3_0_2 lx3_0_3 cx3_1_0 cx3_1_1 lx3_1_0 lx3_1_1 lx3_1_2 lx3_1_3
  replace x1_0 := x1_0.below q6 x1_0.lt
  replace x1_1 := x1_1.below q6 x1_1.lt
  replace x2_0 := x2_0.below q6 x2_0.lt
  replace x2_1 := x2_1.below q6 x2_1.lt
  replace x3_0 := x3_0.below q6 x3_0.lt
  replace x3_1 := x3_1.below q6 x3_1.lt
  have lw6 : w3.heap.size ≤ w6.heap.size := q6.size
  obtain ⟨cx1_2_0, cx1_2_1, cx1_2_2⟩ := x1_2.c3
  obtain ⟨fx1_2_0, fx1_2_1, fx1_2_2⟩ := x1_2.f3
  go_wp2_with fail
  refine bodyPost_ret (v := .tuple #[.agg #[.bool b6, .slice A6 n6 c6, .slice A'6 n'6 c'6], .int .i64 0]) (by simp [results, Tryz.results75, go_sem, *] <;> first | rfl | exact ⟨rfl, rfl⟩) rfl ?_
  exact ⟨b6, A6, n6, c6, A'6, n'6, c'6, rfl, h6.keep ((((Kp.refl w6).setB (p := ⟨w.heap.size + 1 + 1, 0, none⟩) x1_2.box (by decide) (.bool b6)).setB (p := ⟨w.heap.size + 1 + 1, 1, none⟩) (x1_2.box.set ⟨w.heap.size + 1 + 1, 0, none⟩ (.bool b6)) (by decide) (.slice A6 n6 c6)).setB (p := ⟨w.heap.size + 1 + 1, 2, none⟩) ((x1_2.box.set ⟨w.heap.size + 1 + 1, 0, none⟩ (.bool b6)).set ⟨w.heap.size + 1 + 1, 1, none⟩ (.slice A6 n6 c6)) (by decide) (.slice A'6 n'6 c'6)), (((bw6.setCell (p := ⟨w.heap.size + 1 + 1, 0, none⟩) (by dsimp only; omega) (.bool b6)).setCell (p := ⟨w.heap.size + 1 + 1, 1, none⟩) (by dsimp only; omega) (.slice A6 n6 c6)).setCell (p := ⟨w.heap.size + 1 + 1, 2, none⟩) (by dsimp only; omega) (.slice A'6 n'6 c'6))⟩
end Go.Proofs.YtmneloabphplmaaGreat

/- Walks: opposite turns, parts, comparison. -/
namespace Go.Proofs.YtmneloabphplmaaGreat
open Go Go.RowKit Bn
attribute [local go_sem ↓] Go.wp_at_zero Go.wp_at_succ
set_option maxRecDepth 100000 in
set_option maxHeartbeats 2000000 in
/-- turn.neg -/
theorem t_neg (w : World) (b : Bool) (A : Option Addr) (n c : Nat) (D : Option Addr) (m e : Nat) (x : Bool) (t : TN) (k : Nat) (h : TK w b A n c D m e x t k) (h0 : 0 < k) (hk : k ≤ 1000000) :
    Calls Tryz.prog 27 #[.agg #[.bool b, .slice A n c, .slice D m e, .bool x]] w (RetT w (tneg t) k) := by
  go_enter Tryz.func27, Tryz.ntmps27
  go_wp2_with fail
  have p1 : Kp w ((w.alloc (.cells #[.bool b, .slice A n c, .slice D m e, .bool x] 26)).alloc (.cells #[.bool false, .slice none 0 0, .slice none 0 0, .bool false] 26)) := (((Kp.refl w).alloc (.cells #[.bool b, .slice A n c, .slice D m e, .bool x] 26)).alloc (.cells #[.bool false, .slice none 0 0, .slice none 0 0, .bool false] 26))
  have bw1 : Below w.heap.size w ((w.alloc (.cells #[.bool b, .slice A n c, .slice D m e, .bool x] 26)).alloc (.cells #[.bool false, .slice none 0 0, .slice none 0 0, .bool false] 26)) := (((brefl w).alloc (by first | omega | (simp <;> omega)) (.cells #[.bool b, .slice A n c, .slice D m e, .bool x] 26)).alloc (by first | omega | (simp <;> omega)) (.cells #[.bool false, .slice none 0 0, .slice none 0 0, .bool false] 26))
  have x1_0 : Blk ((w.alloc (.cells #[.bool b, .slice A n c, .slice D m e, .bool x] 26)).alloc (.cells #[.bool false, .slice none 0 0, .slice none 0 0, .bool false] 26)) (w.heap.size) 26 #[.bool b, .slice A n c, .slice D m e, .bool x] := ((blkAt _ _ _ (by simp)).alloc (.cells #[.bool false, .slice none 0 0, .slice none 0 0, .bool false] 26))
  have x1_1 : Blk ((w.alloc (.cells #[.bool b, .slice A n c, .slice D m e, .bool x] 26)).alloc (.cells #[.bool false, .slice none 0 0, .slice none 0 0, .bool false] 26)) (w.heap.size + 1) 26 #[.bool false, .slice none 0 0, .slice none 0 0, .bool false] := (blkAt _ _ _ (by simp))
  have lw1 : w.heap.size + 2 ≤ ((w.alloc (.cells #[.bool b, .slice A n c, .slice D m e, .bool x] 26)).alloc (.cells #[.bool false, .slice none 0 0, .slice none 0 0, .bool false] 26)).heap.size := by simp
  generalize hE1 : ((w.alloc (.cells #[.bool b, .slice A n c, .slice D m e, .bool x] 26)).alloc (.cells #[.bool false, .slice none 0 0, .slice none 0 0, .bool false] 26)) = w1 at p1 bw1 lw1 x1_0 x1_1 ⊢
  clear hE1
  replace h := h.keep p1
  obtain ⟨cx1_0_0, cx1_0_1, cx1_0_2, cx1_0_3⟩ := x1_0.c4
  obtain ⟨lx1_0_0, lx1_0_1, lx1_0_2, lx1_0_3⟩ := lts0 x1_0.lt
  obtain ⟨cx1_1_0, cx1_1_1, cx1_1_2, cx1_1_3⟩ := x1_1.c4
  obtain ⟨fx1_1_0, fx1_1_1, fx1_1_2, fx1_1_3⟩ := x1_1.f4
  obtain ⟨lx1_1_0, lx1_1_1, lx1_1_2, lx1_1_3⟩ := lts1 x1_1.lt
  have nfx1_0_0 : ¬ w.heap.size = w.heap.size + 1 := by omega
  have nex1_0_0 : ¬ w.heap.size = w.heap.size + 1 := by omega
  go_region_held3 (fun w' => SeesX w1.heap.size (w.heap.size + 1) w1 w') (first | with_reducible exact SeesX.of (Nat.le_refl _) (by assumption) | with_reducible exact SeesX.of (Nat.le_refl _) (brefl _).drew | with_reducible exact (SeesX.set (SeesX.set (SeesX.set (SeesX.set (SeesX.of (Nat.le_refl _) (by assumption)))))) | with_reducible exact (SeesX.set (SeesX.set (SeesX.set (SeesX.of (Nat.le_refl _) (by assumption))))) | with_reducible exact (SeesX.set (SeesX.set (SeesX.of (Nat.le_refl _) (by assumption)))) | with_reducible exact (SeesX.set (SeesX.of (Nat.le_refl _) (by assumption))) | exact SeesX.of (Nat.le_refl _) (below_drewN (brefl _) 1) | exact SeesX.of (Nat.le_refl _) (below_drewN (by assumption) _))
    (first
      | (go_at_call 55; (with_reducible refine (f_neg _ b A n c D m e ((t).t) (k) ?_ ?_ ?_).mono ?_); (exact h.qz); (first | omega | decide | assumption); (first | omega | decide | assumption); rintro e w2 ⟨b2, A2, n2, c2, A'2, n'2, c'2, rfl, h2, hb2⟩; replace hb2 := bnext (below_drewN (brefl _) 1) hb2; have q2 : Below w1.heap.size w1 w2 := bnext (brefl w1) hb2; replace h := h.belw hb2; have x1_1 : Blk w2 (w.heap.size + 1) 26 #[.bool false, .slice none 0 0, .slice none 0 0, .bool false] := x1_1.below q2 x1_1.lt; obtain ⟨cx1_1_0, cx1_1_1, cx1_1_2, cx1_1_3⟩ := x1_1.c4; obtain ⟨fx1_1_0, fx1_1_1, fx1_1_2, fx1_1_3⟩ := x1_1.f4))
  have bw2 : Below w.heap.size w w2 := bw1.trans (q2.mono bw1.size)
  clear cx1_0_0 cx1_0_1 cx1_0_2 cx1_0_3 lx1_0_0 lx1_0_1 lx1_0_2 lx1_0_3 cx1_1_0 fx1_1_0 cx1_1_1 fx1_1_1 cx1_1_2 fx1_1_2 cx1_1_3 fx1_1_3 lx1_1_0 lx1_1_1 lx1_1_2 lx1_1_3
  replace x1_0 := x1_0.below q2 x1_0.lt
  have lw2 : w1.heap.size ≤ w2.heap.size := q2.size
  obtain ⟨cx1_1_0, cx1_1_1, cx1_1_2, cx1_1_3⟩ := x1_1.c4
  obtain ⟨fx1_1_0, fx1_1_1, fx1_1_2, fx1_1_3⟩ := x1_1.f4
  go_wp2_with fail
  -- h2
  refine bodyPost_ret (v := .agg #[.bool b2, .slice A2 n2 c2, .slice A'2 n'2 c'2, .bool x]) (by simp [results, Tryz.results27, go_sem, *] <;> first | rfl | exact ⟨rfl, rfl⟩) rfl ?_
  have kp := (((((Kp.refl w2).setB (p := ⟨w.heap.size + 1, 0, none⟩) x1_1.box (by decide) (.bool b2)).setB (p := ⟨w.heap.size + 1, 1, none⟩) (x1_1.box.set ⟨w.heap.size + 1, 0, none⟩ (.bool b2)) (by decide) (.slice A2 n2 c2)).setB (p := ⟨w.heap.size + 1, 2, none⟩) ((x1_1.box.set ⟨w.heap.size + 1, 0, none⟩ (.bool b2)).set ⟨w.heap.size + 1, 1, none⟩ (.slice A2 n2 c2)) (by decide) (.slice A'2 n'2 c'2)).setB (p := ⟨w.heap.size + 1, 3, none⟩) (((x1_1.box.set ⟨w.heap.size + 1, 0, none⟩ (.bool b2)).set ⟨w.heap.size + 1, 1, none⟩ (.slice A2 n2 c2)).set ⟨w.heap.size + 1, 2, none⟩ (.slice A'2 n'2 c'2)) (by decide) (.bool x))
  exact ⟨b2, A2, n2, c2, A'2, n'2, c'2, x, rfl, ⟨h2.keep kp, h.2.1, tneg_ok h.2.2⟩, ((((bw2.setCell (p := ⟨w.heap.size + 1, 0, none⟩) (by dsimp only; omega) (.bool b2)).setCell (p := ⟨w.heap.size + 1, 1, none⟩) (by dsimp only; omega) (.slice A2 n2 c2)).setCell (p := ⟨w.heap.size + 1, 2, none⟩) (by dsimp only; omega) (.slice A'2 n'2 c'2)).setCell (p := ⟨w.heap.size + 1, 3, none⟩) (by dsimp only; omega) (.bool x))⟩
set_option maxRecDepth 100000 in
set_option maxHeartbeats 2000000 in
/-- turn.part -/
theorem t_part_true (w : World) (b : Bool) (A : Option Addr) (n c : Nat) (D : Option Addr) (m e : Nat) (t : TN) (k : Nat) (h : TK w b A n c D m e true t k) (h0 : 0 < k) (hk : k ≤ 1000000) :
    Calls Tryz.prog 53 #[.agg #[.bool b, .slice A n c, .slice D m e, .bool true]] w (RetV w (.int .i64 1)) := by
  have H := Lib.hid h
  clear h
  go_enter Tryz.func53, Tryz.ntmps53
  go_wp2
  go_ret
  exact retI rfl ((Below.refl _ _).alloc (Nat.le_refl _) _)
set_option maxRecDepth 100000 in
set_option maxHeartbeats 2000000 in
/-- turn.part -/
theorem t_part_neg (w : World) (b : Bool) (A : Option Addr) (n c : Nat) (D : Option Addr) (m e : Nat) (t : TN) (k : Nat) (h : TK w b A n c D m e false t k) (h0 : 0 < k) (hk : k ≤ 1000000) (hs : t.t.num.sign = -1) :
    Calls Tryz.prog 53 #[.agg #[.bool b, .slice A n c, .slice D m e, .bool false]] w (RetV w (.int .i64 2)) := by
  have HS := Lib.hid hs
  clear hs
  go_enter Tryz.func53, Tryz.ntmps53
  go_wp2_with fail
  (with_reducible refine (f_sign_e _ b A n c D m e ((t).t) (k) ?_ (-1) ?_ ?_ ?_).mono ?_); (exact (h.belw ((Below.refl _ _).alloc (Nat.le_refl _) _)).qz); (exact HS.out); (first | omega | decide | assumption); (first | omega | decide | assumption); rintro e w1 ⟨rfl, hb1⟩
  have q1 : Below w.heap.size w w1 := ((Below.refl _ _).alloc (Nat.le_refl _) _).trans (hb1.mono (by simp))
  replace h := h.belw q1
  have x1_0 : Blk w1 (w.heap.size) 26 #[.bool b, .slice A n c, .slice D m e, .bool false] := (blkAt _ _ _ (by simp)).below hb1 (by simp)
  have bw1 : Below w.heap.size w w1 := (brefl w).trans (q1.mono (brefl w).size)
  have lw1 : w.heap.size + 1 ≤ w1.heap.size := by have := hb1.size; simp at this; omega
  clear hb1 q1
  go_wp2_with fail
  go_ret
  exact retI rfl bw1
set_option maxRecDepth 100000 in
set_option maxHeartbeats 2000000 in
/-- turn.part -/
theorem t_part_pos (w : World) (b : Bool) (A : Option Addr) (n c : Nat) (D : Option Addr) (m e : Nat) (t : TN) (k : Nat) (h : TK w b A n c D m e false t k) (h0 : 0 < k) (hk : k ≤ 1000000) (s : Int) (hs : t.t.num.sign = s) (h1 : 0 ≤ s) :
    Calls Tryz.prog 53 #[.agg #[.bool b, .slice A n c, .slice D m e, .bool false]] w (RetV w (.int .i64 0)) := by
  have HS := Lib.hid hs
  have e0 : decide (s < 0) = false := by simp; omega
  clear hs
  go_enter Tryz.func53, Tryz.ntmps53
  go_wp2_with fail
  (with_reducible refine (f_sign_e _ b A n c D m e ((t).t) (k) ?_ (s) ?_ ?_ ?_).mono ?_); (exact (h.belw ((Below.refl _ _).alloc (Nat.le_refl _) _)).qz); (exact HS.out); (first | omega | decide | assumption); (first | omega | decide | assumption); rintro e w1 ⟨rfl, hb1⟩
  have q1 : Below w.heap.size w w1 := ((Below.refl _ _).alloc (Nat.le_refl _) _).trans (hb1.mono (by simp))
  replace h := h.belw q1
  have x1_0 : Blk w1 (w.heap.size) 26 #[.bool b, .slice A n c, .slice D m e, .bool false] := (blkAt _ _ _ (by simp)).below hb1 (by simp)
  have bw1 : Below w.heap.size w w1 := (brefl w).trans (q1.mono (brefl w).size)
  have lw1 : w.heap.size + 1 ≤ w1.heap.size := by have := hb1.size; simp at this; omega
  clear hb1 q1
  go_wp2_with fail
  go_ret
  exact retI rfl bw1
theorem t_part (w : World) (b : Bool) (A : Option Addr) (n c : Nat) (D : Option Addr) (m e : Nat) (x : Bool) (t : TN) (k : Nat) (h : TK w b A n c D m e x t k) (h0 : 0 < k) (hk : k ≤ 1000000) : Calls Tryz.prog 53 #[.agg #[.bool b, .slice A n c, .slice D m e, .bool x]] w (RetV w (.int .i64 (tpart t))) := by
  cases x
  · have hh : t.h = false := h.2.1.symm
    rcases sign3 t.t.num with s | s | s
    · have : tpart t = 0 := by unfold tpart; rw [if_neg (by rw [hh]; decide), if_neg (by rw [Rat.num_eq_zero.1 s]; decide)]
      rw [this]; exact t_part_pos w b A n c D m e t k h h0 hk 0 (by rw [s]; rfl) (by omega)
    · have : tpart t = 0 := by
        have h1 := sign_q t.t
        unfold tpart; rw [if_neg (by rw [hh]; decide), if_neg (by intro h2; rw [if_pos h2] at h1; rw [h1] at s; exact absurd s (by decide))]
      rw [this]; exact t_part_pos w b A n c D m e t k h h0 hk 1 s (by omega)
    · have : tpart t = 2 := by
        have h1 := sign_q t.t
        unfold tpart; rw [if_neg (by rw [hh]; decide)]
        split
        · rfl
        · rename_i h2; rw [if_neg h2, s] at h1; split at h1 <;> exact absurd h1 (by decide)
      rw [this]; exact t_part_neg w b A n c D m e t k h h0 hk s
  · have : tpart t = 1 := by unfold tpart; rw [if_pos h.2.1.symm]
    rw [this]; exact t_part_true w b A n c D m e t k h h0 hk
end Go.Proofs.YtmneloabphplmaaGreat

/- Walks: the reference: turns. -/
namespace Go.Proofs.YtmneloabphplmaaGreat
open Go Go.RowKit Bn
attribute [local go_sem ↓] Go.wp_at_zero Go.wp_at_succ
set_option maxRecDepth 100000 in
set_option maxHeartbeats 2000000 in
/-- linkworkref12.one -/
theorem u_one (w : World)  :
    Calls Tryz.prog 48 #[] w (RetF w ((1 : Int) : Rat) 1) := by
  go_enter Tryz.func48, Tryz.ntmps48
  go_wp2_with fail
  (with_reducible refine (g_of _ (1) ?_ ?_).mono ?_); (first | omega | decide | assumption); (first | omega | decide | assumption); rintro e w1 ⟨b1, A1, n1, c1, A'1, n'1, c'1, rfl, h1, hb1⟩
  have q1 : Below w.heap.size w w1 := ((Below.refl _ _).alloc (Nat.le_refl _) _).trans (hb1.mono (by simp))
  have x1_0 : Blk w1 (w.heap.size) 24 #[.bool false, .slice none 0 0, .slice none 0 0] := (blkAt _ _ _ (by simp)).below hb1 (by simp)
  have bw1 : Below w.heap.size w w1 := (brefl w).trans (q1.mono (brefl w).size)
  have lw1 : w.heap.size + 1 ≤ w1.heap.size := by have := hb1.size; simp at this; omega
  clear hb1 q1
  obtain ⟨cx1_0_0, cx1_0_1, cx1_0_2⟩ := x1_0.c3
  obtain ⟨fx1_0_0, fx1_0_1, fx1_0_2⟩ := x1_0.f3
  obtain ⟨lx1_0_0, lx1_0_1, lx1_0_2, lx1_0_3⟩ := lts0 x1_0.lt
  go_wp2_with fail
  refine bodyPost_ret (v := .agg #[.bool b1, .slice A1 n1 c1, .slice A'1 n'1 c'1]) (by simp [results, Tryz.results48, go_sem, *] <;> first | rfl | exact ⟨rfl, rfl⟩) rfl ?_
  have kp := ((((Kp.refl w1).setB (p := ⟨w.heap.size, 0, none⟩) x1_0.box (by decide) (.bool b1)).setB (p := ⟨w.heap.size, 1, none⟩) (x1_0.box.set ⟨w.heap.size, 0, none⟩ (.bool b1)) (by decide) (.slice A1 n1 c1)).setB (p := ⟨w.heap.size, 2, none⟩) ((x1_0.box.set ⟨w.heap.size, 0, none⟩ (.bool b1)).set ⟨w.heap.size, 1, none⟩ (.slice A1 n1 c1)) (by decide) (.slice A'1 n'1 c'1))
  exact ⟨b1, A1, n1, c1, A'1, n'1, c'1, rfl, h1.keep kp, (((bw1.setCell (p := ⟨w.heap.size, 0, none⟩) (by dsimp only; omega) (.bool b1)).setCell (p := ⟨w.heap.size, 1, none⟩) (by dsimp only; omega) (.slice A1 n1 c1)).setCell (p := ⟨w.heap.size, 2, none⟩) (by dsimp only; omega) (.slice A'1 n'1 c'1))⟩
set_option maxRecDepth 100000 in
set_option maxHeartbeats 2000000 in
/-- linkworkref12.over -/
theorem u_over (w : World) (b : Bool) (A : Option Addr) (n c : Nat) (D : Option Addr) (m e : Nat) (q : Rat) (k : Nat) (h : QZ w b A n c D m e q k) (b' : Bool) (A' : Option Addr) (n' c' : Nat) (D' : Option Addr) (m' e' : Nat) (q' : Rat) (k' : Nat) (h' : QZ w b' A' n' c' D' m' e' q' k') (h0 : 0 < k) (hk : k ≤ 40000000) (h0' : 0 < k') (hk' : k' ≤ 40000000) (hne : q' ≠ 0) :
    Calls Tryz.prog 47 #[.agg #[.bool b, .slice A n c, .slice D m e], .agg #[.bool b', .slice A' n' c', .slice D' m' e']] w (RetF w (q / q') (k + k')) := by
  have HN := Lib.hid hne
  clear hne
  go_enter Tryz.func47, Tryz.ntmps47
  go_wp2_with fail
  (with_reducible refine (g_div _ b A n c D m e (q) (k) ?_ b' A' n' c' D' m' e' (q') (k') ?_ ?_ ?_ ?_ ?_ ?_).mono ?_); (exact (h.belw ((((Below.refl _ _).alloc (Nat.le_refl _) _).alloc (by simp) _).alloc (by simp <;> omega) _))); (exact (h'.belw ((((Below.refl _ _).alloc (Nat.le_refl _) _).alloc (by simp) _).alloc (by simp <;> omega) _))); (first | omega | decide | assumption); (first | omega | decide | assumption); (first | omega | decide | assumption); (first | omega | decide | assumption); (exact HN.out); rintro e w1 ⟨b1, A1, n1, c1, A'1, n'1, c'1, rfl, h1, hb1⟩
  have q1 : Below w.heap.size w w1 := ((((Below.refl _ _).alloc (Nat.le_refl _) _).alloc (by simp) _).alloc (by simp <;> omega) _).trans (hb1.mono (by simp <;> omega))
  replace h := h.belw q1
  replace h' := h'.belw q1
  have x1_0 : Blk w1 (w.heap.size) 24 #[.bool b, .slice A n c, .slice D m e] := (((blkAt _ _ _ (by simp)).alloc _).alloc _).below hb1 (by simp <;> omega)
  have x1_1 : Blk w1 (w.heap.size + 1) 24 #[.bool b', .slice A' n' c', .slice D' m' e'] := ((blkAt _ _ _ (by simp)).alloc _).below hb1 (by simp <;> omega)
  have x1_2 : Blk w1 (w.heap.size + 1 + 1) 24 #[.bool false, .slice none 0 0, .slice none 0 0] := (blkAt _ _ _ (by simp)).below hb1 (by simp)
  have bw1 : Below w.heap.size w w1 := (brefl w).trans (q1.mono (brefl w).size)
  have lw1 : w.heap.size + 3 ≤ w1.heap.size := by have := hb1.size; simp at this; omega
  clear hb1 q1
  obtain ⟨cx1_2_0, cx1_2_1, cx1_2_2⟩ := x1_2.c3
  obtain ⟨fx1_2_0, fx1_2_1, fx1_2_2⟩ := x1_2.f3
  obtain ⟨lx1_2_0, lx1_2_1, lx1_2_2, lx1_2_3⟩ := lts2 x1_2.lt
  go_wp2_with fail
  refine bodyPost_ret (v := .agg #[.bool b1, .slice A1 n1 c1, .slice A'1 n'1 c'1]) (by simp [results, Tryz.results47, go_sem, *] <;> first | rfl | exact ⟨rfl, rfl⟩) rfl ?_
  have kp := (((((Kp.refl w1).setB (p := ⟨w.heap.size + 1 + 1, 0, none⟩) x1_2.box (by decide) (.bool b1)).setB (p := ⟨w.heap.size + 1 + 1, 1, none⟩) (x1_2.box.set ⟨w.heap.size + 1 + 1, 0, none⟩ (.bool b1)) (by decide) (.slice A1 n1 c1)).setB (p := ⟨w.heap.size + 1 + 1, 2, none⟩) ((x1_2.box.set ⟨w.heap.size + 1 + 1, 0, none⟩ (.bool b1)).set ⟨w.heap.size + 1 + 1, 1, none⟩ (.slice A1 n1 c1)) (by decide) (.slice A'1 n'1 c'1)).alloc (.cells #[.bool b1, .slice A1 n1 c1, .slice A'1 n'1 c'1] 24))
  exact ⟨b1, A1, n1, c1, A'1, n'1, c'1, rfl, h1.keep kp, ((((bw1.setCell (p := ⟨w.heap.size + 1 + 1, 0, none⟩) (by dsimp only; omega) (.bool b1)).setCell (p := ⟨w.heap.size + 1 + 1, 1, none⟩) (by dsimp only; omega) (.slice A1 n1 c1)).setCell (p := ⟨w.heap.size + 1 + 1, 2, none⟩) (by dsimp only; omega) (.slice A'1 n'1 c'1)).alloc (by first | omega | (simp <;> omega)) (.cells #[.bool b1, .slice A1 n1 c1, .slice A'1 n'1 c'1] 24))⟩
set_option maxRecDepth 100000 in
set_option maxHeartbeats 2000000 in
/-- linkworkref12.Neg -/
theorem u_Neg (w : World) (b : Bool) (A : Option Addr) (n c : Nat) (D : Option Addr) (m e : Nat) (x : Bool) (t : TN) (k : Nat) (h : TK w b A n c D m e x t k) (h0 : 0 < k) (hk : k ≤ 1000000) :
    Calls Tryz.prog 31 #[.agg #[.bool b, .slice A n c, .slice D m e, .bool x]] w (RetT w (tneg t) k) := by
  go_enter Tryz.func31, Tryz.ntmps31
  go_wp2_with fail
  have p1 : Kp w ((w.alloc (.cells #[.bool b, .slice A n c, .slice D m e, .bool x] 26)).alloc (.cells #[.bool false, .slice none 0 0, .slice none 0 0, .bool false] 26)) := (((Kp.refl w).alloc (.cells #[.bool b, .slice A n c, .slice D m e, .bool x] 26)).alloc (.cells #[.bool false, .slice none 0 0, .slice none 0 0, .bool false] 26))
  have bw1 : Below w.heap.size w ((w.alloc (.cells #[.bool b, .slice A n c, .slice D m e, .bool x] 26)).alloc (.cells #[.bool false, .slice none 0 0, .slice none 0 0, .bool false] 26)) := (((brefl w).alloc (by first | omega | (simp <;> omega)) (.cells #[.bool b, .slice A n c, .slice D m e, .bool x] 26)).alloc (by first | omega | (simp <;> omega)) (.cells #[.bool false, .slice none 0 0, .slice none 0 0, .bool false] 26))
  have x1_0 : Blk ((w.alloc (.cells #[.bool b, .slice A n c, .slice D m e, .bool x] 26)).alloc (.cells #[.bool false, .slice none 0 0, .slice none 0 0, .bool false] 26)) (w.heap.size) 26 #[.bool b, .slice A n c, .slice D m e, .bool x] := ((blkAt _ _ _ (by simp)).alloc (.cells #[.bool false, .slice none 0 0, .slice none 0 0, .bool false] 26))
  have x1_1 : Blk ((w.alloc (.cells #[.bool b, .slice A n c, .slice D m e, .bool x] 26)).alloc (.cells #[.bool false, .slice none 0 0, .slice none 0 0, .bool false] 26)) (w.heap.size + 1) 26 #[.bool false, .slice none 0 0, .slice none 0 0, .bool false] := (blkAt _ _ _ (by simp))
  have lw1 : w.heap.size + 2 ≤ ((w.alloc (.cells #[.bool b, .slice A n c, .slice D m e, .bool x] 26)).alloc (.cells #[.bool false, .slice none 0 0, .slice none 0 0, .bool false] 26)).heap.size := by simp
  generalize hE1 : ((w.alloc (.cells #[.bool b, .slice A n c, .slice D m e, .bool x] 26)).alloc (.cells #[.bool false, .slice none 0 0, .slice none 0 0, .bool false] 26)) = w1 at p1 bw1 lw1 x1_0 x1_1 ⊢
  clear hE1
  replace h := h.keep p1
  obtain ⟨cx1_0_0, cx1_0_1, cx1_0_2, cx1_0_3⟩ := x1_0.c4
  obtain ⟨lx1_0_0, lx1_0_1, lx1_0_2, lx1_0_3⟩ := lts0 x1_0.lt
  obtain ⟨cx1_1_0, cx1_1_1, cx1_1_2, cx1_1_3⟩ := x1_1.c4
  obtain ⟨fx1_1_0, fx1_1_1, fx1_1_2, fx1_1_3⟩ := x1_1.f4
  obtain ⟨lx1_1_0, lx1_1_1, lx1_1_2, lx1_1_3⟩ := lts1 x1_1.lt
  have nfx1_0_0 : ¬ w.heap.size = w.heap.size + 1 := by omega
  have nex1_0_0 : ¬ w.heap.size = w.heap.size + 1 := by omega
  go_region_held3 (fun w' => SeesX w1.heap.size (w.heap.size + 1) w1 w') (first | with_reducible exact SeesX.of (Nat.le_refl _) (by assumption) | with_reducible exact SeesX.of (Nat.le_refl _) (brefl _).drew | with_reducible exact (SeesX.set (SeesX.set (SeesX.set (SeesX.set (SeesX.of (Nat.le_refl _) (by assumption)))))) | with_reducible exact (SeesX.set (SeesX.set (SeesX.set (SeesX.of (Nat.le_refl _) (by assumption))))) | with_reducible exact (SeesX.set (SeesX.set (SeesX.of (Nat.le_refl _) (by assumption)))) | with_reducible exact (SeesX.set (SeesX.of (Nat.le_refl _) (by assumption))) | exact SeesX.of (Nat.le_refl _) (below_drewN (brefl _) 1) | exact SeesX.of (Nat.le_refl _) (below_drewN (by assumption) _))
    (first
      | (go_at_call 46; (with_reducible refine (g_neg _ b A n c D m e ((t).t) (k) ?_ ?_ ?_).mono ?_); (exact h.qz); (first | omega | decide | assumption); (first | omega | decide | assumption); rintro e w2 ⟨b2, A2, n2, c2, A'2, n'2, c'2, rfl, h2, hb2⟩; replace hb2 := bnext (below_drewN (brefl _) 1) hb2; have q2 : Below w1.heap.size w1 w2 := bnext (brefl w1) hb2; replace h := h.belw hb2; have x1_1 : Blk w2 (w.heap.size + 1) 26 #[.bool false, .slice none 0 0, .slice none 0 0, .bool false] := x1_1.below q2 x1_1.lt; obtain ⟨cx1_1_0, cx1_1_1, cx1_1_2, cx1_1_3⟩ := x1_1.c4; obtain ⟨fx1_1_0, fx1_1_1, fx1_1_2, fx1_1_3⟩ := x1_1.f4))
  have bw2 : Below w.heap.size w w2 := bw1.trans (q2.mono bw1.size)
  clear cx1_0_0 cx1_0_1 cx1_0_2 cx1_0_3 lx1_0_0 lx1_0_1 lx1_0_2 lx1_0_3 cx1_1_0 fx1_1_0 cx1_1_1 fx1_1_1 cx1_1_2 fx1_1_2 cx1_1_3 fx1_1_3 lx1_1_0 lx1_1_1 lx1_1_2 lx1_1_3
  replace x1_0 := x1_0.below q2 x1_0.lt
  have lw2 : w1.heap.size ≤ w2.heap.size := q2.size
  obtain ⟨cx1_1_0, cx1_1_1, cx1_1_2, cx1_1_3⟩ := x1_1.c4
  obtain ⟨fx1_1_0, fx1_1_1, fx1_1_2, fx1_1_3⟩ := x1_1.f4
  go_wp2_with fail
  refine bodyPost_ret (v := .agg #[.bool b2, .slice A2 n2 c2, .slice A'2 n'2 c'2, .bool x]) (by simp [results, Tryz.results31, go_sem, *] <;> first | rfl | exact ⟨rfl, rfl⟩) rfl ?_
  have kp := (((((Kp.refl w2).setB (p := ⟨w.heap.size + 1, 0, none⟩) x1_1.box (by decide) (.bool b2)).setB (p := ⟨w.heap.size + 1, 1, none⟩) (x1_1.box.set ⟨w.heap.size + 1, 0, none⟩ (.bool b2)) (by decide) (.slice A2 n2 c2)).setB (p := ⟨w.heap.size + 1, 2, none⟩) ((x1_1.box.set ⟨w.heap.size + 1, 0, none⟩ (.bool b2)).set ⟨w.heap.size + 1, 1, none⟩ (.slice A2 n2 c2)) (by decide) (.slice A'2 n'2 c'2)).setB (p := ⟨w.heap.size + 1, 3, none⟩) (((x1_1.box.set ⟨w.heap.size + 1, 0, none⟩ (.bool b2)).set ⟨w.heap.size + 1, 1, none⟩ (.slice A2 n2 c2)).set ⟨w.heap.size + 1, 2, none⟩ (.slice A'2 n'2 c'2)) (by decide) (.bool x))
  exact ⟨b2, A2, n2, c2, A'2, n'2, c'2, x, rfl, ⟨h2.keep kp, h.2.1, tneg_ok h.2.2⟩, ((((bw2.setCell (p := ⟨w.heap.size + 1, 0, none⟩) (by dsimp only; omega) (.bool b2)).setCell (p := ⟨w.heap.size + 1, 1, none⟩) (by dsimp only; omega) (.slice A2 n2 c2)).setCell (p := ⟨w.heap.size + 1, 2, none⟩) (by dsimp only; omega) (.slice A'2 n'2 c'2)).setCell (p := ⟨w.heap.size + 1, 3, none⟩) (by dsimp only; omega) (.bool x))⟩
set_option maxRecDepth 100000 in
set_option maxHeartbeats 2000000 in
/-- linkworkref12.part -/
theorem u_part_true (w : World) (b : Bool) (A : Option Addr) (n c : Nat) (D : Option Addr) (m e : Nat) (t : TN) (k : Nat) (h : TK w b A n c D m e true t k) (h0 : 0 < k) (hk : k ≤ 1000000) :
    Calls Tryz.prog 49 #[.agg #[.bool b, .slice A n c, .slice D m e, .bool true]] w (RetV w (.int .i64 1)) := by
  have H := Lib.hid h
  clear h
  go_enter Tryz.func49, Tryz.ntmps49
  go_wp2
  go_ret
  exact retI rfl ((Below.refl _ _).alloc (Nat.le_refl _) _)
set_option maxRecDepth 100000 in
set_option maxHeartbeats 2000000 in
/-- linkworkref12.part -/
theorem u_part_neg (w : World) (b : Bool) (A : Option Addr) (n c : Nat) (D : Option Addr) (m e : Nat) (t : TN) (k : Nat) (h : TK w b A n c D m e false t k) (h0 : 0 < k) (hk : k ≤ 1000000) (hs : t.t.num.sign = -1) :
    Calls Tryz.prog 49 #[.agg #[.bool b, .slice A n c, .slice D m e, .bool false]] w (RetV w (.int .i64 2)) := by
  have HS := Lib.hid hs
  clear hs
  go_enter Tryz.func49, Tryz.ntmps49
  go_wp2_with fail
  (with_reducible refine (g_sign_e _ b A n c D m e ((t).t) (k) ?_ (-1) ?_ ?_ ?_).mono ?_); (exact (h.belw ((Below.refl _ _).alloc (Nat.le_refl _) _)).qz); (exact HS.out); (first | omega | decide | assumption); (first | omega | decide | assumption); rintro e w1 ⟨rfl, hb1⟩
  have q1 : Below w.heap.size w w1 := ((Below.refl _ _).alloc (Nat.le_refl _) _).trans (hb1.mono (by simp))
  replace h := h.belw q1
  have x1_0 : Blk w1 (w.heap.size) 26 #[.bool b, .slice A n c, .slice D m e, .bool false] := (blkAt _ _ _ (by simp)).below hb1 (by simp)
  have bw1 : Below w.heap.size w w1 := (brefl w).trans (q1.mono (brefl w).size)
  have lw1 : w.heap.size + 1 ≤ w1.heap.size := by have := hb1.size; simp at this; omega
  clear hb1 q1
  go_wp2_with fail
  go_ret
  exact retI rfl bw1
set_option maxRecDepth 100000 in
set_option maxHeartbeats 2000000 in
/-- linkworkref12.part -/
theorem u_part_pos (w : World) (b : Bool) (A : Option Addr) (n c : Nat) (D : Option Addr) (m e : Nat) (t : TN) (k : Nat) (h : TK w b A n c D m e false t k) (h0 : 0 < k) (hk : k ≤ 1000000) (s : Int) (hs : t.t.num.sign = s) (h1 : 0 ≤ s) :
    Calls Tryz.prog 49 #[.agg #[.bool b, .slice A n c, .slice D m e, .bool false]] w (RetV w (.int .i64 0)) := by
  have HS := Lib.hid hs
  have e0 : decide (s < 0) = false := by simp; omega
  clear hs
  go_enter Tryz.func49, Tryz.ntmps49
  go_wp2_with fail
  (with_reducible refine (g_sign_e _ b A n c D m e ((t).t) (k) ?_ (s) ?_ ?_ ?_).mono ?_); (exact (h.belw ((Below.refl _ _).alloc (Nat.le_refl _) _)).qz); (exact HS.out); (first | omega | decide | assumption); (first | omega | decide | assumption); rintro e w1 ⟨rfl, hb1⟩
  have q1 : Below w.heap.size w w1 := ((Below.refl _ _).alloc (Nat.le_refl _) _).trans (hb1.mono (by simp))
  replace h := h.belw q1
  have x1_0 : Blk w1 (w.heap.size) 26 #[.bool b, .slice A n c, .slice D m e, .bool false] := (blkAt _ _ _ (by simp)).below hb1 (by simp)
  have bw1 : Below w.heap.size w w1 := (brefl w).trans (q1.mono (brefl w).size)
  have lw1 : w.heap.size + 1 ≤ w1.heap.size := by have := hb1.size; simp at this; omega
  clear hb1 q1
  go_wp2_with fail
  go_ret
  exact retI rfl bw1
theorem u_part (w : World) (b : Bool) (A : Option Addr) (n c : Nat) (D : Option Addr) (m e : Nat) (x : Bool) (t : TN) (k : Nat) (h : TK w b A n c D m e x t k) (h0 : 0 < k) (hk : k ≤ 1000000) : Calls Tryz.prog 49 #[.agg #[.bool b, .slice A n c, .slice D m e, .bool x]] w (RetV w (.int .i64 (tpart t))) := by
  cases x
  · have hh : t.h = false := h.2.1.symm
    rcases sign3 t.t.num with s | s | s
    · have : tpart t = 0 := by unfold tpart; rw [if_neg (by rw [hh]; decide), if_neg (by rw [Rat.num_eq_zero.1 s]; decide)]
      rw [this]; exact u_part_pos w b A n c D m e t k h h0 hk 0 (by rw [s]; rfl) (by omega)
    · have : tpart t = 0 := by
        have h1 := sign_q t.t
        unfold tpart; rw [if_neg (by rw [hh]; decide), if_neg (by intro h2; rw [if_pos h2] at h1; rw [h1] at s; exact absurd s (by decide))]
      rw [this]; exact u_part_pos w b A n c D m e t k h h0 hk 1 s (by omega)
    · have : tpart t = 2 := by
        have h1 := sign_q t.t
        unfold tpart; rw [if_neg (by rw [hh]; decide)]
        split
        · rfl
        · rename_i h2; rw [if_neg h2, s] at h1; split at h1 <;> exact absurd h1 (by decide)
      rw [this]; exact u_part_neg w b A n c D m e t k h h0 hk s
  · have : tpart t = 1 := by unfold tpart; rw [if_pos h.2.1.symm]
    rw [this]; exact u_part_true w b A n c D m e t k h h0 hk
theorem u_part_e (w : World) (b : Bool) (A : Option Addr) (n c : Nat) (D : Option Addr) (m e : Nat) (x : Bool) (t : TN) (k : Nat) (h : TK w b A n c D m e x t k) (s : Int) (hs : tpart t = s) (h0 : 0 < k) (hk : k ≤ 1000000) : Calls Tryz.prog 49 #[.agg #[.bool b, .slice A n c, .slice D m e, .bool x]] w (RetV w (.int .i64 s)) := by subst hs; exact u_part w b A n c D m e x t k h h0 hk
theorem sub_rcmp (q q' : Rat) : (q - q').num.sign = rcmp q q' := by
  have h1 := sign_q (q - q')
  rw [h1]
  unfold rcmp
  have h2 : (q - q' < 0) ↔ q < q' := by constructor <;> intro h <;> grind
  have h3 : (q - q' = 0) ↔ q = q' := by constructor <;> intro h <;> grind
  by_cases h4 : q < q'
  · rw [if_pos h4, if_pos (h2.2 h4)]
  · rw [if_neg h4, if_neg (fun h => h4 (h2.1 h))]
    by_cases h5 : q = q'
    · rw [if_pos h5, if_pos (h3.2 h5)]
    · rw [if_neg h5, if_neg (fun h => h5 (h3.1 h))]
set_option maxRecDepth 100000 in
set_option maxHeartbeats 2000000 in
/-- linkworkref12.Cmp -/
theorem u_Cmp_lt (w : World) (b : Bool) (A : Option Addr) (n c : Nat) (D : Option Addr) (m e : Nat) (x : Bool) (t : TN) (k : Nat) (h : TK w b A n c D m e x t k) (b' : Bool) (A' : Option Addr) (n' c' : Nat) (D' : Option Addr) (m' e' : Nat) (x' : Bool) (t' : TN) (k' : Nat) (h' : TK w b' A' n' c' D' m' e' x' t' k') (h0 : 0 < k) (hk : k ≤ 1000000) (h0' : 0 < k') (hk' : k' ≤ 1000000) (hp : tpart t < tpart t') :
    Calls Tryz.prog 19 #[.agg #[.bool b, .slice A n c, .slice D m e, .bool x], .agg #[.bool b', .slice A' n' c', .slice D' m' e', .bool x']] w (RetV w (.int .i64 (-1))) := by
  obtain ⟨s, hs⟩ : ∃ s, tpart t = s := ⟨_, rfl⟩
  obtain ⟨s', hs'⟩ : ∃ s, tpart t' = s := ⟨_, rfl⟩
  rw [hs, hs'] at hp
  have e0 : (s != s') = true := by simp; omega
  have e1 : decide (s < s') = true := by simp; omega
  have HS := Lib.hid hs
  have HS' := Lib.hid hs'
  clear hs hs' hp
  go_enter Tryz.func19, Tryz.ntmps19
  go_wp2_with fail
  have p1 : Kp w ((w.alloc (.cells #[.bool b, .slice A n c, .slice D m e, .bool x] 26)).alloc (.cells #[.bool b', .slice A' n' c', .slice D' m' e', .bool x'] 26)) := (((Kp.refl w).alloc (.cells #[.bool b, .slice A n c, .slice D m e, .bool x] 26)).alloc (.cells #[.bool b', .slice A' n' c', .slice D' m' e', .bool x'] 26))
  have bw1 : Below w.heap.size w ((w.alloc (.cells #[.bool b, .slice A n c, .slice D m e, .bool x] 26)).alloc (.cells #[.bool b', .slice A' n' c', .slice D' m' e', .bool x'] 26)) := (((brefl w).alloc (by first | omega | (simp <;> omega)) (.cells #[.bool b, .slice A n c, .slice D m e, .bool x] 26)).alloc (by first | omega | (simp <;> omega)) (.cells #[.bool b', .slice A' n' c', .slice D' m' e', .bool x'] 26))
  have x1_0 : Blk ((w.alloc (.cells #[.bool b, .slice A n c, .slice D m e, .bool x] 26)).alloc (.cells #[.bool b', .slice A' n' c', .slice D' m' e', .bool x'] 26)) (w.heap.size) 26 #[.bool b, .slice A n c, .slice D m e, .bool x] := ((blkAt _ _ _ (by simp)).alloc (.cells #[.bool b', .slice A' n' c', .slice D' m' e', .bool x'] 26))
  have x1_1 : Blk ((w.alloc (.cells #[.bool b, .slice A n c, .slice D m e, .bool x] 26)).alloc (.cells #[.bool b', .slice A' n' c', .slice D' m' e', .bool x'] 26)) (w.heap.size + 1) 26 #[.bool b', .slice A' n' c', .slice D' m' e', .bool x'] := (blkAt _ _ _ (by simp))
  have lw1 : w.heap.size + 2 ≤ ((w.alloc (.cells #[.bool b, .slice A n c, .slice D m e, .bool x] 26)).alloc (.cells #[.bool b', .slice A' n' c', .slice D' m' e', .bool x'] 26)).heap.size := by simp
  generalize hE1 : ((w.alloc (.cells #[.bool b, .slice A n c, .slice D m e, .bool x] 26)).alloc (.cells #[.bool b', .slice A' n' c', .slice D' m' e', .bool x'] 26)) = w1 at p1 bw1 lw1 x1_0 x1_1 ⊢
  clear hE1
  replace h := h.keep p1
  replace h' := h'.keep p1
  obtain ⟨cx1_0_0, cx1_0_1, cx1_0_2, cx1_0_3⟩ := x1_0.c4
  obtain ⟨lx1_0_0, lx1_0_1, lx1_0_2, lx1_0_3⟩ := lts0 x1_0.lt
  obtain ⟨cx1_1_0, cx1_1_1, cx1_1_2, cx1_1_3⟩ := x1_1.c4
  obtain ⟨lx1_1_0, lx1_1_1, lx1_1_2, lx1_1_3⟩ := lts1 x1_1.lt
  go_region_held3 (fun w' => Sees w1.heap.size w1 w') (first | with_reducible exact Sees.of (Nat.le_refl _) (by assumption) | with_reducible exact Sees.of (Nat.le_refl _) (brefl _).drew | exact Sees.of (Nat.le_refl _) (below_drewN (brefl _) 1) | exact Sees.of (Nat.le_refl _) (below_drewN (by assumption) _))
    (first
      | (go_at_call 49; (with_reducible refine (u_part_e _ b A n c D m e x (t) (k) ?_ s ?_ ?_ ?_).mono ?_); (exact h); (exact HS.out); (first | omega | decide | assumption); (first | omega | decide | assumption); rintro e w2 ⟨rfl, hb2⟩; replace hb2 := bnext (below_drewN (brefl _) 1) hb2; have q2 : Below w1.heap.size w1 w2 := bnext (brefl w1) hb2; replace h := h.belw hb2; replace h' := h'.belw hb2)
      | (go_at_call 49; (with_reducible refine (u_part_e _ b' A' n' c' D' m' e' x' (t') (k') ?_ s' ?_ ?_ ?_).mono ?_); (exact h'); (exact HS'.out); (first | omega | decide | assumption); (first | omega | decide | assumption); rintro e w3 ⟨rfl, hb3⟩; have q3 : Below w1.heap.size w1 w3 := bnext q2 hb3; replace h := h.belw hb3; replace h' := h'.belw hb3))
  have bw3 : Below w.heap.size w w3 := bw1.trans (q3.mono bw1.size)
  clear cx1_0_0 cx1_0_1 cx1_0_2 cx1_0_3 lx1_0_0 lx1_0_1 lx1_0_2 lx1_0_3 cx1_1_0 cx1_1_1 cx1_1_2 cx1_1_3 lx1_1_0 lx1_1_1 lx1_1_2 lx1_1_3
  replace x1_0 := x1_0.below q3 x1_0.lt
  replace x1_1 := x1_1.below q3 x1_1.lt
  have lw3 : w1.heap.size ≤ w3.heap.size := q3.size
  go_wp2_with fail
  go_ret
  exact retI rfl bw3
set_option maxRecDepth 100000 in
set_option maxHeartbeats 2000000 in
/-- linkworkref12.Cmp -/
theorem u_Cmp_gt (w : World) (b : Bool) (A : Option Addr) (n c : Nat) (D : Option Addr) (m e : Nat) (x : Bool) (t : TN) (k : Nat) (h : TK w b A n c D m e x t k) (b' : Bool) (A' : Option Addr) (n' c' : Nat) (D' : Option Addr) (m' e' : Nat) (x' : Bool) (t' : TN) (k' : Nat) (h' : TK w b' A' n' c' D' m' e' x' t' k') (h0 : 0 < k) (hk : k ≤ 1000000) (h0' : 0 < k') (hk' : k' ≤ 1000000) (hp : tpart t' < tpart t) :
    Calls Tryz.prog 19 #[.agg #[.bool b, .slice A n c, .slice D m e, .bool x], .agg #[.bool b', .slice A' n' c', .slice D' m' e', .bool x']] w (RetV w (.int .i64 1)) := by
  obtain ⟨s, hs⟩ : ∃ s, tpart t = s := ⟨_, rfl⟩
  obtain ⟨s', hs'⟩ : ∃ s, tpart t' = s := ⟨_, rfl⟩
  rw [hs, hs'] at hp
  have e0 : (s != s') = true := by simp; omega
  have e1 : decide (s < s') = false := by simp; omega
  have HS := Lib.hid hs
  have HS' := Lib.hid hs'
  clear hs hs' hp
  go_enter Tryz.func19, Tryz.ntmps19
  go_wp2_with fail
  have p1 : Kp w ((w.alloc (.cells #[.bool b, .slice A n c, .slice D m e, .bool x] 26)).alloc (.cells #[.bool b', .slice A' n' c', .slice D' m' e', .bool x'] 26)) := (((Kp.refl w).alloc (.cells #[.bool b, .slice A n c, .slice D m e, .bool x] 26)).alloc (.cells #[.bool b', .slice A' n' c', .slice D' m' e', .bool x'] 26))
  have bw1 : Below w.heap.size w ((w.alloc (.cells #[.bool b, .slice A n c, .slice D m e, .bool x] 26)).alloc (.cells #[.bool b', .slice A' n' c', .slice D' m' e', .bool x'] 26)) := (((brefl w).alloc (by first | omega | (simp <;> omega)) (.cells #[.bool b, .slice A n c, .slice D m e, .bool x] 26)).alloc (by first | omega | (simp <;> omega)) (.cells #[.bool b', .slice A' n' c', .slice D' m' e', .bool x'] 26))
  have x1_0 : Blk ((w.alloc (.cells #[.bool b, .slice A n c, .slice D m e, .bool x] 26)).alloc (.cells #[.bool b', .slice A' n' c', .slice D' m' e', .bool x'] 26)) (w.heap.size) 26 #[.bool b, .slice A n c, .slice D m e, .bool x] := ((blkAt _ _ _ (by simp)).alloc (.cells #[.bool b', .slice A' n' c', .slice D' m' e', .bool x'] 26))
  have x1_1 : Blk ((w.alloc (.cells #[.bool b, .slice A n c, .slice D m e, .bool x] 26)).alloc (.cells #[.bool b', .slice A' n' c', .slice D' m' e', .bool x'] 26)) (w.heap.size + 1) 26 #[.bool b', .slice A' n' c', .slice D' m' e', .bool x'] := (blkAt _ _ _ (by simp))
  have lw1 : w.heap.size + 2 ≤ ((w.alloc (.cells #[.bool b, .slice A n c, .slice D m e, .bool x] 26)).alloc (.cells #[.bool b', .slice A' n' c', .slice D' m' e', .bool x'] 26)).heap.size := by simp
  generalize hE1 : ((w.alloc (.cells #[.bool b, .slice A n c, .slice D m e, .bool x] 26)).alloc (.cells #[.bool b', .slice A' n' c', .slice D' m' e', .bool x'] 26)) = w1 at p1 bw1 lw1 x1_0 x1_1 ⊢
  clear hE1
  replace h := h.keep p1
  replace h' := h'.keep p1
  obtain ⟨cx1_0_0, cx1_0_1, cx1_0_2, cx1_0_3⟩ := x1_0.c4
  obtain ⟨lx1_0_0, lx1_0_1, lx1_0_2, lx1_0_3⟩ := lts0 x1_0.lt
  obtain ⟨cx1_1_0, cx1_1_1, cx1_1_2, cx1_1_3⟩ := x1_1.c4
  obtain ⟨lx1_1_0, lx1_1_1, lx1_1_2, lx1_1_3⟩ := lts1 x1_1.lt
  go_region_held3 (fun w' => Sees w1.heap.size w1 w') (first | with_reducible exact Sees.of (Nat.le_refl _) (by assumption) | with_reducible exact Sees.of (Nat.le_refl _) (brefl _).drew | exact Sees.of (Nat.le_refl _) (below_drewN (brefl _) 1) | exact Sees.of (Nat.le_refl _) (below_drewN (by assumption) _))
    (first
      | (go_at_call 49; (with_reducible refine (u_part_e _ b A n c D m e x (t) (k) ?_ s ?_ ?_ ?_).mono ?_); (exact h); (exact HS.out); (first | omega | decide | assumption); (first | omega | decide | assumption); rintro e w2 ⟨rfl, hb2⟩; replace hb2 := bnext (below_drewN (brefl _) 1) hb2; have q2 : Below w1.heap.size w1 w2 := bnext (brefl w1) hb2; replace h := h.belw hb2; replace h' := h'.belw hb2)
      | (go_at_call 49; (with_reducible refine (u_part_e _ b' A' n' c' D' m' e' x' (t') (k') ?_ s' ?_ ?_ ?_).mono ?_); (exact h'); (exact HS'.out); (first | omega | decide | assumption); (first | omega | decide | assumption); rintro e w3 ⟨rfl, hb3⟩; have q3 : Below w1.heap.size w1 w3 := bnext q2 hb3; replace h := h.belw hb3; replace h' := h'.belw hb3))
  have bw3 : Below w.heap.size w w3 := bw1.trans (q3.mono bw1.size)
  clear cx1_0_0 cx1_0_1 cx1_0_2 cx1_0_3 lx1_0_0 lx1_0_1 lx1_0_2 lx1_0_3 cx1_1_0 cx1_1_1 cx1_1_2 cx1_1_3 lx1_1_0 lx1_1_1 lx1_1_2 lx1_1_3
  replace x1_0 := x1_0.below q3 x1_0.lt
  replace x1_1 := x1_1.below q3 x1_1.lt
  have lw3 : w1.heap.size ≤ w3.heap.size := q3.size
  go_wp2_with fail
  go_ret
  exact retI rfl bw3
set_option maxRecDepth 100000 in
set_option maxHeartbeats 2000000 in
/-- linkworkref12.Cmp -/
theorem u_Cmp_eq (w : World) (b : Bool) (A : Option Addr) (n c : Nat) (D : Option Addr) (m e : Nat) (x : Bool) (t : TN) (k : Nat) (h : TK w b A n c D m e x t k) (b' : Bool) (A' : Option Addr) (n' c' : Nat) (D' : Option Addr) (m' e' : Nat) (x' : Bool) (t' : TN) (k' : Nat) (h' : TK w b' A' n' c' D' m' e' x' t' k') (h0 : 0 < k) (hk : k ≤ 1000000) (h0' : 0 < k') (hk' : k' ≤ 1000000) (hp : tpart t = tpart t') :
    Calls Tryz.prog 19 #[.agg #[.bool b, .slice A n c, .slice D m e, .bool x], .agg #[.bool b', .slice A' n' c', .slice D' m' e', .bool x']] w (RetV w (.int .i64 (tcmp t t'))) := by
  obtain ⟨s, hs⟩ : ∃ s, tpart t = s := ⟨_, rfl⟩
  obtain ⟨s', hs'⟩ : ∃ s, tpart t' = s := ⟨_, rfl⟩
  have HR := Lib.hid (show (t.t - t'.t).num.sign = tcmp t t' by rw [sub_rcmp]; unfold tcmp; rw [if_neg (by omega), if_neg (by omega)])
  rw [hs, hs'] at hp
  have e0 : (s != s') = false := by simp; omega
  have HS := Lib.hid hs
  have HS' := Lib.hid hs'
  clear hs hs' hp
  go_enter Tryz.func19, Tryz.ntmps19
  go_wp2_with fail
  have p1 : Kp w ((w.alloc (.cells #[.bool b, .slice A n c, .slice D m e, .bool x] 26)).alloc (.cells #[.bool b', .slice A' n' c', .slice D' m' e', .bool x'] 26)) := (((Kp.refl w).alloc (.cells #[.bool b, .slice A n c, .slice D m e, .bool x] 26)).alloc (.cells #[.bool b', .slice A' n' c', .slice D' m' e', .bool x'] 26))
  have bw1 : Below w.heap.size w ((w.alloc (.cells #[.bool b, .slice A n c, .slice D m e, .bool x] 26)).alloc (.cells #[.bool b', .slice A' n' c', .slice D' m' e', .bool x'] 26)) := (((brefl w).alloc (by first | omega | (simp <;> omega)) (.cells #[.bool b, .slice A n c, .slice D m e, .bool x] 26)).alloc (by first | omega | (simp <;> omega)) (.cells #[.bool b', .slice A' n' c', .slice D' m' e', .bool x'] 26))
  have x1_0 : Blk ((w.alloc (.cells #[.bool b, .slice A n c, .slice D m e, .bool x] 26)).alloc (.cells #[.bool b', .slice A' n' c', .slice D' m' e', .bool x'] 26)) (w.heap.size) 26 #[.bool b, .slice A n c, .slice D m e, .bool x] := ((blkAt _ _ _ (by simp)).alloc (.cells #[.bool b', .slice A' n' c', .slice D' m' e', .bool x'] 26))
  have x1_1 : Blk ((w.alloc (.cells #[.bool b, .slice A n c, .slice D m e, .bool x] 26)).alloc (.cells #[.bool b', .slice A' n' c', .slice D' m' e', .bool x'] 26)) (w.heap.size + 1) 26 #[.bool b', .slice A' n' c', .slice D' m' e', .bool x'] := (blkAt _ _ _ (by simp))
  have lw1 : w.heap.size + 2 ≤ ((w.alloc (.cells #[.bool b, .slice A n c, .slice D m e, .bool x] 26)).alloc (.cells #[.bool b', .slice A' n' c', .slice D' m' e', .bool x'] 26)).heap.size := by simp
  generalize hE1 : ((w.alloc (.cells #[.bool b, .slice A n c, .slice D m e, .bool x] 26)).alloc (.cells #[.bool b', .slice A' n' c', .slice D' m' e', .bool x'] 26)) = w1 at p1 bw1 lw1 x1_0 x1_1 ⊢
  clear hE1
  replace h := h.keep p1
  replace h' := h'.keep p1
  obtain ⟨cx1_0_0, cx1_0_1, cx1_0_2, cx1_0_3⟩ := x1_0.c4
  obtain ⟨lx1_0_0, lx1_0_1, lx1_0_2, lx1_0_3⟩ := lts0 x1_0.lt
  obtain ⟨cx1_1_0, cx1_1_1, cx1_1_2, cx1_1_3⟩ := x1_1.c4
  obtain ⟨lx1_1_0, lx1_1_1, lx1_1_2, lx1_1_3⟩ := lts1 x1_1.lt
  go_region_held3 (fun w' => Sees w1.heap.size w1 w') (first | with_reducible exact Sees.of (Nat.le_refl _) (by assumption) | with_reducible exact Sees.of (Nat.le_refl _) (brefl _).drew | exact Sees.of (Nat.le_refl _) (below_drewN (brefl _) 1) | exact Sees.of (Nat.le_refl _) (below_drewN (by assumption) _))
    (first
      | (go_at_call 49; (with_reducible refine (u_part_e _ b A n c D m e x (t) (k) ?_ s ?_ ?_ ?_).mono ?_); (exact h); (exact HS.out); (first | omega | decide | assumption); (first | omega | decide | assumption); rintro e w2 ⟨rfl, hb2⟩; replace hb2 := bnext (below_drewN (brefl _) 1) hb2; have q2 : Below w1.heap.size w1 w2 := bnext (brefl w1) hb2; replace h := h.belw hb2; replace h' := h'.belw hb2)
      | (go_at_call 49; (with_reducible refine (u_part_e _ b' A' n' c' D' m' e' x' (t') (k') ?_ s' ?_ ?_ ?_).mono ?_); (exact h'); (exact HS'.out); (first | omega | decide | assumption); (first | omega | decide | assumption); rintro e w3 ⟨rfl, hb3⟩; have q3 : Below w1.heap.size w1 w3 := bnext q2 hb3; replace h := h.belw hb3; replace h' := h'.belw hb3))
  have bw3 : Below w.heap.size w w3 := bw1.trans (q3.mono bw1.size)
  clear cx1_0_0 cx1_0_1 cx1_0_2 cx1_0_3 lx1_0_0 lx1_0_1 lx1_0_2 lx1_0_3 cx1_1_0 cx1_1_1 cx1_1_2 cx1_1_3 lx1_1_0 lx1_1_1 lx1_1_2 lx1_1_3
  replace x1_0 := x1_0.below q3 x1_0.lt
  replace x1_1 := x1_1.below q3 x1_1.lt
  have lw3 : w1.heap.size ≤ w3.heap.size := q3.size
  obtain ⟨cx1_0_0, cx1_0_1, cx1_0_2, cx1_0_3⟩ := x1_0.c4
  obtain ⟨lx1_0_0, lx1_0_1, lx1_0_2, lx1_0_3⟩ := lts0 x1_0.lt
  obtain ⟨cx1_1_0, cx1_1_1, cx1_1_2, cx1_1_3⟩ := x1_1.c4
  obtain ⟨lx1_1_0, lx1_1_1, lx1_1_2, lx1_1_3⟩ := lts1 x1_1.lt
  go_wp2_with fail
  (with_reducible refine (g_cmp_e _ b A n c D m e ((t).t) (k) ?_ b' A' n' c' D' m' e' ((t').t) (k') ?_ (tcmp t t') ?_ ?_ ?_ ?_ ?_).mono ?_); (exact h.qz); (exact h'.qz); (exact HR.out); (first | omega | decide | assumption); (first | omega | decide | assumption); (first | omega | decide | assumption); (first | omega | decide | assumption); rintro e w4 ⟨rfl, hb4⟩
  clear cx1_0_0 cx1_0_1 cx1_0_2 cx1_0_3 lx1_0_0 lx1_0_1 lx1_0_2 lx1_0_3 cx1_1_0 cx1_1_1 cx1_1_2 cx1_1_3 lx1_1_0 lx1_1_1 lx1_1_2 lx1_1_3
  have q4 : Below w3.heap.size w3 w4 := hb4
  replace h := h.belw q4
  replace h' := h'.belw q4
  replace x1_0 := x1_0.below q4 x1_0.lt
  replace x1_1 := x1_1.below q4 x1_1.lt
  have bw4 : Below w.heap.size w w4 := bw3.trans (q4.mono bw3.size)
  have lw4 : w3.heap.size ≤ w4.heap.size := q4.size
  clear hb4 q4 bw3
  go_wp2_with fail
  go_ret
  exact retI rfl bw4
theorem u_Cmp (w : World) (b : Bool) (A : Option Addr) (n c : Nat) (D : Option Addr) (m e : Nat) (x : Bool) (t : TN) (k : Nat) (h : TK w b A n c D m e x t k) (b' : Bool) (A' : Option Addr) (n' c' : Nat) (D' : Option Addr) (m' e' : Nat) (x' : Bool) (t' : TN) (k' : Nat) (h' : TK w b' A' n' c' D' m' e' x' t' k') (h0 : 0 < k) (hk : k ≤ 1000000) (h0' : 0 < k') (hk' : k' ≤ 1000000) : Calls Tryz.prog 19 #[.agg #[.bool b, .slice A n c, .slice D m e, .bool x], .agg #[.bool b', .slice A' n' c', .slice D' m' e', .bool x']] w (RetV w (.int .i64 (tcmp t t'))) := by
  rcases Int.lt_trichotomy (tpart t) (tpart t') with hp | hp | hp
  · have : tcmp t t' = -1 := by unfold tcmp; rw [if_pos hp]
    rw [this]; exact u_Cmp_lt w b A n c D m e x t k h b' A' n' c' D' m' e' x' t' k' h' h0 hk h0' hk' hp
  · exact u_Cmp_eq w b A n c D m e x t k h b' A' n' c' D' m' e' x' t' k' h' h0 hk h0' hk' hp
  · have : tcmp t t' = 1 := by unfold tcmp; rw [if_neg (by omega), if_pos hp]
    rw [this]; exact u_Cmp_gt w b A n c D m e x t k h b' A' n' c' D' m' e' x' t' k' h' h0 hk h0' hk' hp
theorem u_Cmp_e (w : World) (b : Bool) (A : Option Addr) (n c : Nat) (D : Option Addr) (m e : Nat) (x : Bool) (t : TN) (k : Nat) (h : TK w b A n c D m e x t k) (b' : Bool) (A' : Option Addr) (n' c' : Nat) (D' : Option Addr) (m' e' : Nat) (x' : Bool) (t' : TN) (k' : Nat) (h' : TK w b' A' n' c' D' m' e' x' t' k') (s : Int) (hs : tcmp t t' = s) (h0 : 0 < k) (hk : k ≤ 1000000) (h0' : 0 < k') (hk' : k' ≤ 1000000) : Calls Tryz.prog 19 #[.agg #[.bool b, .slice A n c, .slice D m e, .bool x], .agg #[.bool b', .slice A' n' c', .slice D' m' e', .bool x']] w (RetV w (.int .i64 s)) := by subst hs; exact u_Cmp w b A n c D m e x t k h b' A' n' c' D' m' e' x' t' k' h' h0 hk h0' hk'
end Go.Proofs.YtmneloabphplmaaGreat

/- Walks: the reference: sums of turns. -/
namespace Go.Proofs.YtmneloabphplmaaGreat
open Go Go.RowKit Bn
attribute [local go_sem ↓] Go.wp_at_zero Go.wp_at_succ
theorem THalf.zero (w : World) : TK w false none 0 0 none 0 0 true thalf 1 := ⟨⟨⟨false, [], []⟩, ⟨rfl, Wd.nil_ w, Wd.nil_ w, Nat.zero_le _, Nat.zero_le _⟩, by rfl, by rfl⟩, rfl, fun _ => rfl⟩
theorem tv_half (w : World) (k : Nat) : TV w false none 0 0 none 0 0 true thalf k := ⟨QV.zero _ _, rfl, fun _ => rfl⟩
theorem neg_over (q : Rat) : -(((1 : Int) : Rat) / q) = ((-1 : Int) : Rat) / q := by
  rw [Rat.div_def, Rat.div_def, ← Rat.neg_mul]; rfl
set_option maxRecDepth 100000 in
set_option maxHeartbeats 4000000 in
/-- linkworkref12.Add -/
theorem u_Add_tt (w : World) (b : Bool) (A : Option Addr) (n c : Nat) (D : Option Addr) (m e : Nat) (t : TN) (k : Nat) (h : TK w b A n c D m e true t k) (b' : Bool) (A' : Option Addr) (n' c' : Nat) (D' : Option Addr) (m' e' : Nat) (t' : TN) (k' : Nat) (h' : TK w b' A' n' c' D' m' e' true t' k') (h0 : 0 < k) (hk : k ≤ 1000000) (h0' : 0 < k') (hk' : k' ≤ 1000000)  :
    Calls Tryz.prog 18 #[.agg #[.bool b, .slice A n c, .slice D m e, .bool true], .agg #[.bool b', .slice A' n' c', .slice D' m' e', .bool true]] w (RetT w (tadd t t') (2 * k + 2 * k' + 3)) := by
  rw [show tadd t t' = tzero by unfold tadd tadd1; simp [← h.2.1, ← h'.2.1]]
  go_enter Tryz.func18, Tryz.ntmps18
  go_wp2_with fail
  refine bodyPost_ret (v := .agg #[.bool false, .slice none 0 0, .slice none 0 0, .bool false]) (by simp [results, Tryz.results18, go_sem, *] <;> first | rfl | exact ⟨rfl, rfl⟩) rfl ?_
  exact ⟨false, none, 0, 0, none, 0, 0, false, rfl, tv_zero _ _, ((((brefl w).alloc (by first | omega | (simp <;> omega)) (.cells #[.bool b, .slice A n c, .slice D m e, .bool true] 26)).alloc (by first | omega | (simp <;> omega)) (.cells #[.bool b', .slice A' n' c', .slice D' m' e', .bool true] 26)).alloc (by first | omega | (simp <;> omega)) (.cells #[.bool false, .slice none 0 0, .slice none 0 0, .bool false] 26))⟩
set_option maxRecDepth 100000 in
set_option maxHeartbeats 4000000 in
/-- linkworkref12.Add -/
theorem u_Add_tf0 (w : World) (b : Bool) (A : Option Addr) (n c : Nat) (D : Option Addr) (m e : Nat) (t : TN) (k : Nat) (h : TK w b A n c D m e true t k) (b' : Bool) (A' : Option Addr) (n' c' : Nat) (D' : Option Addr) (m' e' : Nat) (t' : TN) (k' : Nat) (h' : TK w b' A' n' c' D' m' e' false t' k') (h0 : 0 < k) (hk : k ≤ 1000000) (h0' : 0 < k') (hk' : k' ≤ 1000000) (hz : t'.t = 0) :
    Calls Tryz.prog 18 #[.agg #[.bool b, .slice A n c, .slice D m e, .bool true], .agg #[.bool b', .slice A' n' c', .slice D' m' e', .bool false]] w (RetT w (tadd t t') (2 * k + 2 * k' + 3)) := by
  rw [show tadd t t' = t by rcases t with ⟨q, x⟩; unfold tadd tadd1 thalf; simp only; have h1 := h.2.1; have h2 := h.2.2; have h3 := h'.2.1; simp only at h1; subst h1; simp [← h3, hz]; exact (h2 rfl).symm]
  have HZ := Lib.hid (sgn_eq hz)
  clear hz
  go_enter Tryz.func18, Tryz.ntmps18
  go_wp2_with fail
  (with_reducible refine (g_sign_e _ b' A' n' c' D' m' e' ((t').t) (k') ?_ (0) ?_ ?_ ?_).mono ?_); (exact (h'.belw ((((Below.refl _ _).alloc (Nat.le_refl _) _).alloc (by simp) _).alloc (by simp <;> omega) _)).qz); (exact HZ.out); (first | omega | decide | assumption); (first | omega | decide | assumption); rintro e w1 ⟨rfl, hb1⟩
  have q1 : Below w.heap.size w w1 := ((((Below.refl _ _).alloc (Nat.le_refl _) _).alloc (by simp) _).alloc (by simp <;> omega) _).trans (hb1.mono (by simp <;> omega))
  replace h := h.belw q1
  replace h' := h'.belw q1
  have x1_0 : Blk w1 (w.heap.size) 26 #[.bool b, .slice A n c, .slice D m e, .bool true] := (((blkAt _ _ _ (by simp)).alloc _).alloc _).below hb1 (by simp <;> omega)
  have x1_1 : Blk w1 (w.heap.size + 1) 26 #[.bool b', .slice A' n' c', .slice D' m' e', .bool false] := ((blkAt _ _ _ (by simp)).alloc _).below hb1 (by simp <;> omega)
  have x1_2 : Blk w1 (w.heap.size + 1 + 1) 26 #[.bool false, .slice none 0 0, .slice none 0 0, .bool false] := (blkAt _ _ _ (by simp)).below hb1 (by simp)
  have bw1 : Below w.heap.size w w1 := (brefl w).trans (q1.mono (brefl w).size)
  have lw1 : w.heap.size + 3 ≤ w1.heap.size := by have := hb1.size; simp at this; omega
  clear hb1 q1
  obtain ⟨cx1_0_0, cx1_0_1, cx1_0_2, cx1_0_3⟩ := x1_0.c4
  obtain ⟨lx1_0_0, lx1_0_1, lx1_0_2, lx1_0_3⟩ := lts0 x1_0.lt
  obtain ⟨cx1_2_0, cx1_2_1, cx1_2_2, cx1_2_3⟩ := x1_2.c4
  obtain ⟨fx1_2_0, fx1_2_1, fx1_2_2, fx1_2_3⟩ := x1_2.f4
  obtain ⟨lx1_2_0, lx1_2_1, lx1_2_2, lx1_2_3⟩ := lts2 x1_2.lt
  go_wp2_with fail
  refine bodyPost_ret (v := .agg #[.bool b, .slice A n c, .slice D m e, .bool true]) (by simp [results, Tryz.results18, go_sem, *] <;> first | rfl | exact ⟨rfl, rfl⟩) rfl ?_
  have kp := (((((Kp.refl w1).setB (p := ⟨w.heap.size + 1 + 1, 0, none⟩) x1_2.box (by decide) (.bool b)).setB (p := ⟨w.heap.size + 1 + 1, 1, none⟩) (x1_2.box.set ⟨w.heap.size + 1 + 1, 0, none⟩ (.bool b)) (by decide) (.slice A n c)).setB (p := ⟨w.heap.size + 1 + 1, 2, none⟩) ((x1_2.box.set ⟨w.heap.size + 1 + 1, 0, none⟩ (.bool b)).set ⟨w.heap.size + 1 + 1, 1, none⟩ (.slice A n c)) (by decide) (.slice D m e)).setB (p := ⟨w.heap.size + 1 + 1, 3, none⟩) (((x1_2.box.set ⟨w.heap.size + 1 + 1, 0, none⟩ (.bool b)).set ⟨w.heap.size + 1 + 1, 1, none⟩ (.slice A n c)).set ⟨w.heap.size + 1 + 1, 2, none⟩ (.slice D m e)) (by decide) (.bool true))
  exact ⟨b, A, n, c, D, m, e, true, rfl, (h.tv.keep kp).mono (by omega), ((((bw1.setCell (p := ⟨w.heap.size + 1 + 1, 0, none⟩) (by dsimp only; omega) (.bool b)).setCell (p := ⟨w.heap.size + 1 + 1, 1, none⟩) (by dsimp only; omega) (.slice A n c)).setCell (p := ⟨w.heap.size + 1 + 1, 2, none⟩) (by dsimp only; omega) (.slice D m e)).setCell (p := ⟨w.heap.size + 1 + 1, 3, none⟩) (by dsimp only; omega) (.bool true))⟩
set_option maxRecDepth 100000 in
set_option maxHeartbeats 4000000 in
/-- linkworkref12.Add -/
theorem u_Add_tf1 (w : World) (b : Bool) (A : Option Addr) (n c : Nat) (D : Option Addr) (m e : Nat) (t : TN) (k : Nat) (h : TK w b A n c D m e true t k) (b' : Bool) (A' : Option Addr) (n' c' : Nat) (D' : Option Addr) (m' e' : Nat) (t' : TN) (k' : Nat) (h' : TK w b' A' n' c' D' m' e' false t' k') (h0 : 0 < k) (hk : k ≤ 1000000) (h0' : 0 < k') (hk' : k' ≤ 1000000) (hz : t'.t ≠ 0) :
    Calls Tryz.prog 18 #[.agg #[.bool b, .slice A n c, .slice D m e, .bool true], .agg #[.bool b', .slice A' n' c', .slice D' m' e', .bool false]] w (RetT w (tadd t t') (2 * k + 2 * k' + 3)) := by
  have HT := Lib.hid (show tadd t t' = ⟨-(((1 : Int) : Rat) / t'.t), false⟩ by rw [neg_over]; unfold tadd tadd1; simp [← h.2.1, ← h'.2.1, hz])
  obtain ⟨s, hs⟩ : ∃ s, t'.t.num.sign = s := ⟨_, rfl⟩
  have e0 := sgn_ne hs hz
  have HZ := Lib.hid hs
  have HNE := Lib.hid hz
  clear hz hs
  go_enter Tryz.func18, Tryz.ntmps18
  go_wp2_with fail
  (with_reducible refine (g_sign_e _ b' A' n' c' D' m' e' ((t').t) (k') ?_ (s) ?_ ?_ ?_).mono ?_); (exact (h'.belw ((((Below.refl _ _).alloc (Nat.le_refl _) _).alloc (by simp) _).alloc (by simp <;> omega) _)).qz); (exact HZ.out); (first | omega | decide | assumption); (first | omega | decide | assumption); rintro e w1 ⟨rfl, hb1⟩
  have q1 : Below w.heap.size w w1 := ((((Below.refl _ _).alloc (Nat.le_refl _) _).alloc (by simp) _).alloc (by simp <;> omega) _).trans (hb1.mono (by simp <;> omega))
  replace h := h.belw q1
  replace h' := h'.belw q1
  have x1_0 : Blk w1 (w.heap.size) 26 #[.bool b, .slice A n c, .slice D m e, .bool true] := (((blkAt _ _ _ (by simp)).alloc _).alloc _).below hb1 (by simp <;> omega)
  have x1_1 : Blk w1 (w.heap.size + 1) 26 #[.bool b', .slice A' n' c', .slice D' m' e', .bool false] := ((blkAt _ _ _ (by simp)).alloc _).below hb1 (by simp <;> omega)
  have x1_2 : Blk w1 (w.heap.size + 1 + 1) 26 #[.bool false, .slice none 0 0, .slice none 0 0, .bool false] := (blkAt _ _ _ (by simp)).below hb1 (by simp)
  have bw1 : Below w.heap.size w w1 := (brefl w).trans (q1.mono (brefl w).size)
  have lw1 : w.heap.size + 3 ≤ w1.heap.size := by have := hb1.size; simp at this; omega
  clear hb1 q1
  obtain ⟨cx1_0_0, cx1_0_1, cx1_0_2, cx1_0_3⟩ := x1_0.c4
  obtain ⟨lx1_0_0, lx1_0_1, lx1_0_2, lx1_0_3⟩ := lts0 x1_0.lt
  obtain ⟨cx1_1_0, cx1_1_1, cx1_1_2, cx1_1_3⟩ := x1_1.c4
  obtain ⟨lx1_1_0, lx1_1_1, lx1_1_2, lx1_1_3⟩ := lts1 x1_1.lt
  obtain ⟨cx1_2_0, cx1_2_1, cx1_2_2, cx1_2_3⟩ := x1_2.c4
  obtain ⟨fx1_2_0, fx1_2_1, fx1_2_2, fx1_2_3⟩ := x1_2.f4
  obtain ⟨lx1_2_0, lx1_2_1, lx1_2_2, lx1_2_3⟩ := lts2 x1_2.lt
  go_wp2_with fail
  have nfx1_0_0 : ¬ w.heap.size = w.heap.size + 1 + 1 := by omega
  have nex1_0_0 : ¬ w.heap.size = w.heap.size + 2 := by omega
  have nfx1_1_0 : ¬ w.heap.size + 1 = w.heap.size + 1 + 1 := by omega
  have nex1_1_0 : ¬ w.heap.size = w.heap.size + 1 := by omega
  go_region_held3 (fun w' => SeesX w1.heap.size (w.heap.size + 1 + 1) w1 w') (first | with_reducible exact SeesX.of (Nat.le_refl _) (by assumption) | with_reducible exact SeesX.of (Nat.le_refl _) (brefl _).drew | with_reducible exact (SeesX.set (SeesX.set (SeesX.set (SeesX.set (SeesX.of (Nat.le_refl _) (by assumption)))))) | with_reducible exact (SeesX.set (SeesX.set (SeesX.set (SeesX.of (Nat.le_refl _) (by assumption))))) | with_reducible exact (SeesX.set (SeesX.set (SeesX.of (Nat.le_refl _) (by assumption)))) | with_reducible exact (SeesX.set (SeesX.of (Nat.le_refl _) (by assumption))) | exact SeesX.of (Nat.le_refl _) (below_drewN (brefl _) 1) | exact SeesX.of (Nat.le_refl _) (below_drewN (by assumption) _))
    (first
      | (go_at_call 48; (with_reducible refine (u_one _).mono ?_); rintro e w2 ⟨b2, A2, n2, c2, A'2, n'2, c'2, rfl, h2, hb2⟩; replace hb2 := bnext (below_drewN (brefl _) 1) hb2; have q2 : Below w1.heap.size w1 w2 := bnext (brefl w1) hb2; replace h := h.belw hb2; replace h' := h'.belw hb2)
      | (go_at_call 47; (with_reducible refine (u_over _ b2 A2 n2 c2 A'2 n'2 c'2 (((1 : Int) : Rat)) (1) ?_ b' A' n' c' D' m' e' ((t').t) (k') ?_ ?_ ?_ ?_ ?_ ?_).mono ?_); (exact h2.qz); (exact h'.qz); (first | omega | decide | assumption); (first | omega | decide | assumption); (first | omega | decide | assumption); (first | omega | decide | assumption); (exact HNE.out); rintro e w3 ⟨b3, A3, n3, c3, A'3, n'3, c'3, rfl, h3, hb3⟩; have q3 : Below w1.heap.size w1 w3 := bnext q2 hb3; replace h := h.belw hb3; replace h' := h'.belw hb3; replace h2 := h2.belw hb3)
      | (go_at_call 46; (with_reducible refine (g_neg _ b3 A3 n3 c3 A'3 n'3 c'3 ((((1 : Int) : Rat)) / ((t').t)) ((1) + (k')) ?_ ?_ ?_).mono ?_); (exact h3.qz); (first | omega | decide | assumption); (first | omega | decide | assumption); rintro e w4 ⟨b4, A4, n4, c4, A'4, n'4, c'4, rfl, h4, hb4⟩; have q4 : Below w1.heap.size w1 w4 := bnext q3 hb4; replace h := h.belw hb4; replace h' := h'.belw hb4; replace h2 := h2.belw hb4; replace h3 := h3.belw hb4; have x1_2 : Blk w4 (w.heap.size + 1 + 1) 26 #[.bool false, .slice none 0 0, .slice none 0 0, .bool false] := x1_2.below q4 x1_2.lt; obtain ⟨cx1_2_0, cx1_2_1, cx1_2_2, cx1_2_3⟩ := x1_2.c4; obtain ⟨fx1_2_0, fx1_2_1, fx1_2_2, fx1_2_3⟩ := x1_2.f4))
  have bw4 : Below w.heap.size w w4 := bw1.trans (q4.mono bw1.size)
  clear cx1_0_0 cx1_0_1 cx1_0_2 cx1_0_3 lx1_0_0 lx1_0_1 lx1_0_2 lx1_0_3 cx1_1_0 cx1_1_1 cx1_1_2 cx1_1_3 lx1_1_0 lx1_1_1 lx1_1_2 lx1_1_3 cx1_2_0 fx1_2_0 cx1_2_1 fx1_2_1 cx1_2_2 fx1_2_2 cx1_2_3 fx1_2_3 lx1_2_0 lx1_2_1 lx1_2_2 lx1_2_3
  replace x1_0 := x1_0.below q4 x1_0.lt
  replace x1_1 := x1_1.below q4 x1_1.lt
  have lw4 : w1.heap.size ≤ w4.heap.size := q4.size
  obtain ⟨cx1_2_0, cx1_2_1, cx1_2_2, cx1_2_3⟩ := x1_2.c4
  obtain ⟨fx1_2_0, fx1_2_1, fx1_2_2, fx1_2_3⟩ := x1_2.f4
  go_wp2_with fail
  rw [HT.out]
  refine bodyPost_ret (v := .agg #[.bool b4, .slice A4 n4 c4, .slice A'4 n'4 c'4, .bool false]) (by simp [results, Tryz.results18, go_sem, *] <;> first | rfl | exact ⟨rfl, rfl⟩) rfl ?_
  have kp := (((((Kp.refl w4).setB (p := ⟨w.heap.size + 1 + 1, 0, none⟩) x1_2.box (by decide) (.bool b4)).setB (p := ⟨w.heap.size + 1 + 1, 1, none⟩) (x1_2.box.set ⟨w.heap.size + 1 + 1, 0, none⟩ (.bool b4)) (by decide) (.slice A4 n4 c4)).setB (p := ⟨w.heap.size + 1 + 1, 2, none⟩) ((x1_2.box.set ⟨w.heap.size + 1 + 1, 0, none⟩ (.bool b4)).set ⟨w.heap.size + 1 + 1, 1, none⟩ (.slice A4 n4 c4)) (by decide) (.slice A'4 n'4 c'4)).setB (p := ⟨w.heap.size + 1 + 1, 3, none⟩) (((x1_2.box.set ⟨w.heap.size + 1 + 1, 0, none⟩ (.bool b4)).set ⟨w.heap.size + 1 + 1, 1, none⟩ (.slice A4 n4 c4)).set ⟨w.heap.size + 1 + 1, 2, none⟩ (.slice A'4 n'4 c'4)) (by decide) (.bool false))
  exact ⟨b4, A4, n4, c4, A'4, n'4, c'4, false, rfl, (tv_mk (h4.keep kp)).mono (by omega), ((((bw4.setCell (p := ⟨w.heap.size + 1 + 1, 0, none⟩) (by dsimp only; omega) (.bool b4)).setCell (p := ⟨w.heap.size + 1 + 1, 1, none⟩) (by dsimp only; omega) (.slice A4 n4 c4)).setCell (p := ⟨w.heap.size + 1 + 1, 2, none⟩) (by dsimp only; omega) (.slice A'4 n'4 c'4)).setCell (p := ⟨w.heap.size + 1 + 1, 3, none⟩) (by dsimp only; omega) (.bool false))⟩
theorem u_Add_tf (w : World) (b : Bool) (A : Option Addr) (n c : Nat) (D : Option Addr) (m e : Nat) (t : TN) (k : Nat) (h : TK w b A n c D m e true t k) (b' : Bool) (A' : Option Addr) (n' c' : Nat) (D' : Option Addr) (m' e' : Nat) (t' : TN) (k' : Nat) (h' : TK w b' A' n' c' D' m' e' false t' k') (h0 : 0 < k) (hk : k ≤ 1000000) (h0' : 0 < k') (hk' : k' ≤ 1000000) : Calls Tryz.prog 18 #[.agg #[.bool b, .slice A n c, .slice D m e, .bool true], .agg #[.bool b', .slice A' n' c', .slice D' m' e', .bool false]] w (RetT w (tadd t t') (2 * k + 2 * k' + 3)) := by
  by_cases hz : t'.t = 0
  · exact u_Add_tf0 w b A n c D m e t k h b' A' n' c' D' m' e' t' k' h' h0 hk h0' hk' hz
  · exact u_Add_tf1 w b A n c D m e t k h b' A' n' c' D' m' e' t' k' h' h0 hk h0' hk' hz
set_option maxRecDepth 100000 in
set_option maxHeartbeats 4000000 in
/-- linkworkref12.Add -/
theorem u_Add_ft (w : World) (b : Bool) (A : Option Addr) (n c : Nat) (D : Option Addr) (m e : Nat) (t : TN) (k : Nat) (h : TK w b A n c D m e false t k) (b' : Bool) (A' : Option Addr) (n' c' : Nat) (D' : Option Addr) (m' e' : Nat) (t' : TN) (k' : Nat) (h' : TK w b' A' n' c' D' m' e' true t' k') (h0 : 0 < k) (hk : k ≤ 1000000) (h0' : 0 < k') (hk' : k' ≤ 1000000)  :
    Calls Tryz.prog 18 #[.agg #[.bool b, .slice A n c, .slice D m e, .bool false], .agg #[.bool b', .slice A' n' c', .slice D' m' e', .bool true]] w (RetT w (tadd t t') (2 * k + 2 * k' + 3)) := by
  have HT := Lib.hid (tadd_comm h.2.2 h'.2.2)
  go_enter Tryz.func18, Tryz.ntmps18
  go_wp2_with fail
  (with_reducible refine (u_Add_tf _ b' A' n' c' D' m' e' (t') (k') ?_ b A n c D m e (t) (k) ?_ ?_ ?_ ?_ ?_).mono ?_); (exact (h'.belw ((((Below.refl _ _).alloc (Nat.le_refl _) _).alloc (by simp) _).alloc (by simp <;> omega) _))); (exact (h.belw ((((Below.refl _ _).alloc (Nat.le_refl _) _).alloc (by simp) _).alloc (by simp <;> omega) _))); (first | omega | decide | assumption); (first | omega | decide | assumption); (first | omega | decide | assumption); (first | omega | decide | assumption); rintro e w1 ⟨b1, A1, n1, c1, A'1, n'1, c'1, x1, rfl, h1, hb1⟩
  have q1 : Below w.heap.size w w1 := ((((Below.refl _ _).alloc (Nat.le_refl _) _).alloc (by simp) _).alloc (by simp <;> omega) _).trans (hb1.mono (by simp <;> omega))
  replace h := h.belw q1
  replace h' := h'.belw q1
  have x1_0 : Blk w1 (w.heap.size) 26 #[.bool b, .slice A n c, .slice D m e, .bool false] := (((blkAt _ _ _ (by simp)).alloc _).alloc _).below hb1 (by simp <;> omega)
  have x1_1 : Blk w1 (w.heap.size + 1) 26 #[.bool b', .slice A' n' c', .slice D' m' e', .bool true] := ((blkAt _ _ _ (by simp)).alloc _).below hb1 (by simp <;> omega)
  have x1_2 : Blk w1 (w.heap.size + 1 + 1) 26 #[.bool false, .slice none 0 0, .slice none 0 0, .bool false] := (blkAt _ _ _ (by simp)).below hb1 (by simp)
  have bw1 : Below w.heap.size w w1 := (brefl w).trans (q1.mono (brefl w).size)
  have lw1 : w.heap.size + 3 ≤ w1.heap.size := by have := hb1.size; simp at this; omega
  clear hb1 q1
  obtain ⟨cx1_2_0, cx1_2_1, cx1_2_2, cx1_2_3⟩ := x1_2.c4
  obtain ⟨fx1_2_0, fx1_2_1, fx1_2_2, fx1_2_3⟩ := x1_2.f4
  obtain ⟨lx1_2_0, lx1_2_1, lx1_2_2, lx1_2_3⟩ := lts2 x1_2.lt
  go_wp2_with fail
  rw [HT.out]
  refine bodyPost_ret (v := .agg #[.bool b1, .slice A1 n1 c1, .slice A'1 n'1 c'1, .bool x1]) (by simp [results, Tryz.results18, go_sem, *] <;> first | rfl | exact ⟨rfl, rfl⟩) rfl ?_
  have kp := (((((Kp.refl w1).setB (p := ⟨w.heap.size + 1 + 1, 0, none⟩) x1_2.box (by decide) (.bool b1)).setB (p := ⟨w.heap.size + 1 + 1, 1, none⟩) (x1_2.box.set ⟨w.heap.size + 1 + 1, 0, none⟩ (.bool b1)) (by decide) (.slice A1 n1 c1)).setB (p := ⟨w.heap.size + 1 + 1, 2, none⟩) ((x1_2.box.set ⟨w.heap.size + 1 + 1, 0, none⟩ (.bool b1)).set ⟨w.heap.size + 1 + 1, 1, none⟩ (.slice A1 n1 c1)) (by decide) (.slice A'1 n'1 c'1)).setB (p := ⟨w.heap.size + 1 + 1, 3, none⟩) (((x1_2.box.set ⟨w.heap.size + 1 + 1, 0, none⟩ (.bool b1)).set ⟨w.heap.size + 1 + 1, 1, none⟩ (.slice A1 n1 c1)).set ⟨w.heap.size + 1 + 1, 2, none⟩ (.slice A'1 n'1 c'1)) (by decide) (.bool x1))
  exact ⟨b1, A1, n1, c1, A'1, n'1, c'1, x1, rfl, (h1.keep kp).mono (by omega), ((((bw1.setCell (p := ⟨w.heap.size + 1 + 1, 0, none⟩) (by dsimp only; omega) (.bool b1)).setCell (p := ⟨w.heap.size + 1 + 1, 1, none⟩) (by dsimp only; omega) (.slice A1 n1 c1)).setCell (p := ⟨w.heap.size + 1 + 1, 2, none⟩) (by dsimp only; omega) (.slice A'1 n'1 c'1)).setCell (p := ⟨w.heap.size + 1 + 1, 3, none⟩) (by dsimp only; omega) (.bool x1))⟩
set_option maxRecDepth 100000 in
set_option maxHeartbeats 4000000 in
/-- linkworkref12.Add -/
theorem u_Add_ff0 (w : World) (b : Bool) (A : Option Addr) (n c : Nat) (D : Option Addr) (m e : Nat) (t : TN) (k : Nat) (h : TK w b A n c D m e false t k) (b' : Bool) (A' : Option Addr) (n' c' : Nat) (D' : Option Addr) (m' e' : Nat) (t' : TN) (k' : Nat) (h' : TK w b' A' n' c' D' m' e' false t' k') (h0 : 0 < k) (hk : k ≤ 1000000) (h0' : 0 < k') (hk' : k' ≤ 1000000) (hz : ((1 : Int) : Rat) - t.t * t'.t = 0) :
    Calls Tryz.prog 18 #[.agg #[.bool b, .slice A n c, .slice D m e, .bool false], .agg #[.bool b', .slice A' n' c', .slice D' m' e', .bool false]] w (RetT w (tadd t t') (2 * k + 2 * k' + 3)) := by
  rw [show tadd t t' = thalf by unfold tadd tadd1; have hz' : 1 - t.t * t'.t = 0 := hz; simp [← h.2.1, ← h'.2.1, hz']]
  have HZ := Lib.hid (sgn_eq hz)
  clear hz
  go_enter Tryz.func18, Tryz.ntmps18
  go_wp2_with fail
  have p1 : Kp w (((w.alloc (.cells #[.bool b, .slice A n c, .slice D m e, .bool false] 26)).alloc (.cells #[.bool b', .slice A' n' c', .slice D' m' e', .bool false] 26)).alloc (.cells #[.bool false, .slice none 0 0, .slice none 0 0, .bool false] 26)) := ((((Kp.refl w).alloc (.cells #[.bool b, .slice A n c, .slice D m e, .bool false] 26)).alloc (.cells #[.bool b', .slice A' n' c', .slice D' m' e', .bool false] 26)).alloc (.cells #[.bool false, .slice none 0 0, .slice none 0 0, .bool false] 26))
  have bw1 : Below w.heap.size w (((w.alloc (.cells #[.bool b, .slice A n c, .slice D m e, .bool false] 26)).alloc (.cells #[.bool b', .slice A' n' c', .slice D' m' e', .bool false] 26)).alloc (.cells #[.bool false, .slice none 0 0, .slice none 0 0, .bool false] 26)) := ((((brefl w).alloc (by first | omega | (simp <;> omega)) (.cells #[.bool b, .slice A n c, .slice D m e, .bool false] 26)).alloc (by first | omega | (simp <;> omega)) (.cells #[.bool b', .slice A' n' c', .slice D' m' e', .bool false] 26)).alloc (by first | omega | (simp <;> omega)) (.cells #[.bool false, .slice none 0 0, .slice none 0 0, .bool false] 26))
  have x1_0 : Blk (((w.alloc (.cells #[.bool b, .slice A n c, .slice D m e, .bool false] 26)).alloc (.cells #[.bool b', .slice A' n' c', .slice D' m' e', .bool false] 26)).alloc (.cells #[.bool false, .slice none 0 0, .slice none 0 0, .bool false] 26)) (w.heap.size) 26 #[.bool b, .slice A n c, .slice D m e, .bool false] := (((blkAt _ _ _ (by simp)).alloc (.cells #[.bool b', .slice A' n' c', .slice D' m' e', .bool false] 26)).alloc (.cells #[.bool false, .slice none 0 0, .slice none 0 0, .bool false] 26))
  have x1_1 : Blk (((w.alloc (.cells #[.bool b, .slice A n c, .slice D m e, .bool false] 26)).alloc (.cells #[.bool b', .slice A' n' c', .slice D' m' e', .bool false] 26)).alloc (.cells #[.bool false, .slice none 0 0, .slice none 0 0, .bool false] 26)) (w.heap.size + 1) 26 #[.bool b', .slice A' n' c', .slice D' m' e', .bool false] := ((blkAt _ _ _ (by simp)).alloc (.cells #[.bool false, .slice none 0 0, .slice none 0 0, .bool false] 26))
  have x1_2 : Blk (((w.alloc (.cells #[.bool b, .slice A n c, .slice D m e, .bool false] 26)).alloc (.cells #[.bool b', .slice A' n' c', .slice D' m' e', .bool false] 26)).alloc (.cells #[.bool false, .slice none 0 0, .slice none 0 0, .bool false] 26)) (w.heap.size + 1 + 1) 26 #[.bool false, .slice none 0 0, .slice none 0 0, .bool false] := (blkAt _ _ _ (by simp))
  have lw1 : w.heap.size + 3 ≤ (((w.alloc (.cells #[.bool b, .slice A n c, .slice D m e, .bool false] 26)).alloc (.cells #[.bool b', .slice A' n' c', .slice D' m' e', .bool false] 26)).alloc (.cells #[.bool false, .slice none 0 0, .slice none 0 0, .bool false] 26)).heap.size := by simp
  generalize hE1 : (((w.alloc (.cells #[.bool b, .slice A n c, .slice D m e, .bool false] 26)).alloc (.cells #[.bool b', .slice A' n' c', .slice D' m' e', .bool false] 26)).alloc (.cells #[.bool false, .slice none 0 0, .slice none 0 0, .bool false] 26)) = w1 at p1 bw1 lw1 x1_0 x1_1 x1_2 ⊢
  clear hE1
  replace h := h.keep p1
  replace h' := h'.keep p1
  obtain ⟨cx1_0_0, cx1_0_1, cx1_0_2, cx1_0_3⟩ := x1_0.c4
  obtain ⟨lx1_0_0, lx1_0_1, lx1_0_2, lx1_0_3⟩ := lts0 x1_0.lt
  obtain ⟨cx1_1_0, cx1_1_1, cx1_1_2, cx1_1_3⟩ := x1_1.c4
  obtain ⟨lx1_1_0, lx1_1_1, lx1_1_2, lx1_1_3⟩ := lts1 x1_1.lt
  refine wp_region_lin (B := w.heap.size) (fr := fun xf => ⟨List.toArray (.agg #[.bool b, .slice A n c, .slice D m e, .bool false] :: .agg #[.bool b', .slice A' n' c', .slice D' m' e', .bool false] :: .pointer (some ⟨w.heap.size, 0, none⟩) :: .pointer (some ⟨w.heap.size + 1, 0, none⟩) :: .pointer (some ⟨w.heap.size + 1 + 1, 0, none⟩) :: xf 7 :: _ :: .pointer (some ⟨w.heap.size, 3, none⟩) :: .bool false :: .bool false :: _ :: _ :: _ :: undef :: .bool false :: .pointer (some ⟨w.heap.size + 1, 3, none⟩) :: .bool false :: undef :: undef :: undef :: _ :: .pointer (some ⟨w.heap.size, 3, none⟩) :: .bool false :: .bool false :: _ :: _ :: _ :: _ :: _ :: undef :: .bool false :: .pointer (some ⟨w.heap.size, 3, none⟩) :: .bool false :: undef :: undef :: undef :: undef :: undef :: undef :: xf 0 :: xf 1 :: xf 2 :: xf 3 :: xf 4 :: xf 5 :: xf 6 :: undef :: undef :: undef :: undef :: undef :: undef :: undef :: undef :: undef :: undef :: undef :: undef :: []), []⟩) (R := fun i => List.getD ((VQ (((1 : Int) : Rat)) (1)) :: (PEq (.pointer (some ⟨w.heap.size, 0, none⟩))) :: (PEq (.agg #[.bool b, .slice A n c, .slice D m e])) :: (PEq (.pointer (some ⟨w.heap.size + 1, 0, none⟩))) :: (PEq (.agg #[.bool b', .slice A' n' c', .slice D' m' e'])) :: (VQ (((t).t) * ((t').t)) ((k) + (k'))) :: (VQ ((((1 : Int) : Rat)) - (((t).t) * ((t').t))) ((1) + ((k) + (k')) + 1)) :: PAny :: PAny :: []) i (fun _ _ => True)) (es := [⟨7, 8, 24, #[.bool false, .slice none 0 0, .slice none 0 0], CQ ((((1 : Int) : Rat)) - (((t).t) * ((t').t))) ((1) + ((k) + (k')) + 1)⟩]) (ow := [⟨w.heap.size, 9, 0, 26, #[.bool b, .slice A n c, .slice D m e, .bool false], CAny⟩, ⟨w.heap.size + 1, 9, 0, 26, #[.bool b', .slice A' n' c', .slice D' m' e', .bool false], CAny⟩, ⟨w.heap.size + 1 + 1, 9, 0, 26, #[.bool false, .slice none 0 0, .slice none 0 0, .bool false], CAny⟩]) (x0 := (fun _ => undef)) (by kernel_rfl)
    (each_of ⟨fun _ _ => rfl, fun _ _ => rfl, fun _ _ => rfl, fun _ _ => rfl, fun _ _ => rfl, fun _ _ => rfl, fun _ _ => rfl, fun _ _ => rfl, fun _ _ => rfl, trivial⟩) (each_of (acyc_from _ 0 (by kernel_rfl))) (AllStab.get _ ⟨stQ _ _, stEq _, stEq _, stEq _, stEq _, stQ _ _, stQ _ _, stAny, stAny, trivial⟩)
    (List.forall_mem_cons.2 ⟨scQ _ _, fun _ h => nomatch h⟩) (List.forall_mem_cons.2 ⟨scAny, List.forall_mem_cons.2 ⟨scAny, List.forall_mem_cons.2 ⟨scAny, fun _ h => nomatch h⟩⟩⟩) (List.forall_mem_cons.2 ⟨⟨by simp, by simp⟩, fun _ h => nomatch h⟩) bw1.size
    (List.forall_mem_cons.2 ⟨⟨x1_0, by show w.heap.size ≤ w.heap.size; omega⟩, List.forall_mem_cons.2 ⟨⟨x1_1, by show w.heap.size ≤ w.heap.size + 1; omega⟩, List.forall_mem_cons.2 ⟨⟨x1_2, by show w.heap.size ≤ w.heap.size + 1 + 1; omega⟩, fun _ h => nomatch h⟩⟩⟩) (ownDist (by simp <;> omega))
    (each_of ⟨?_, ?_, ?_, ?_, ?_, ?_, ?_, ?_, ?_, trivial⟩) ?_
  · exact .inl ⟨by simp, by simp, fun xf wq hk hbl hd K hK => by
      (try dsimp only)
      go_simp
      go_at_call 48
      (with_reducible refine (u_one _).mono ?_); rintro e wr ⟨b3, A3, n3, c3, A'3, n'3, c'3, rfl, h3, hbr⟩
      exact hK.out _ _ ⟨b3, A3, n3, c3, A'3, n'3, c'3, rfl, h3⟩ hbr⟩
  · exact .inl ⟨by simp, by simp, fun xf wq hk hbl hd K hK => by
      (try dsimp only)
      go_simp
      exact hK.out (.pointer (some ⟨w.heap.size, 0, none⟩)) _ rfl (brefl _)⟩
  · exact .inl ⟨by simp, by simp, fun xf wq hk hbl hd K hK => by
      have dq1 : xf 1 = .pointer (some ⟨w.heap.size, 0, none⟩) := hd ⟨1, .data⟩ (by simp) rfl
      have y : Blk wq (w.heap.size) 26 #[.bool b, .slice A n c, .slice D m e, .bool false] := hbl _ (List.Mem.head _) (by simp [Region.binds])
      obtain ⟨hcl0, hcl1, hcl2, hcl3⟩ := y.c4
      (try dsimp only); (try simp only [dq1])
      go_simp
      have hz := hK.out (.agg #[.bool b, .slice A n c, .slice D m e]) _ rfl (brefl _)
      simp only [dq1] at hz
      exact hz⟩
  · exact .inl ⟨by simp, by simp, fun xf wq hk hbl hd K hK => by
      (try dsimp only)
      go_simp
      exact hK.out (.pointer (some ⟨w.heap.size + 1, 0, none⟩)) _ rfl (brefl _)⟩
  · exact .inl ⟨by simp, by simp, fun xf wq hk hbl hd K hK => by
      have dq3 : xf 3 = .pointer (some ⟨w.heap.size + 1, 0, none⟩) := hd ⟨3, .data⟩ (by simp) rfl
      have y : Blk wq (w.heap.size + 1) 26 #[.bool b', .slice A' n' c', .slice D' m' e', .bool false] := hbl _ (List.Mem.tail _ (List.Mem.head _)) (by simp [Region.binds])
      obtain ⟨hcl0, hcl1, hcl2, hcl3⟩ := y.c4
      (try dsimp only); (try simp only [dq3])
      go_simp
      have hz := hK.out (.agg #[.bool b', .slice A' n' c', .slice D' m' e']) _ rfl (brefl _)
      simp only [dq3] at hz
      exact hz⟩
  · exact .inl ⟨by simp, by simp, fun xf wq hk hbl hd K hK => by
      have dq2 : xf 2 = .agg #[.bool b, .slice A n c, .slice D m e] := hd ⟨2, .data⟩ (by simp) rfl
      have dq4 : xf 4 = .agg #[.bool b', .slice A' n' c', .slice D' m' e'] := hd ⟨4, .data⟩ (by simp) rfl
      (try dsimp only); (try simp only [dq2, dq4])
      go_simp
      go_at_call 44
      (with_reducible refine (g_mul _ b A n c D m e ((t).t) (k) ?_ b' A' n' c' D' m' e' ((t').t) (k') ?_ ?_ ?_ ?_ ?_).mono ?_); (exact (h.keep hk).qz); (exact (h'.keep hk).qz); (first | omega | decide | assumption); (first | omega | decide | assumption); (first | omega | decide | assumption); (first | omega | decide | assumption); rintro e wr ⟨b4, A4, n4, c4, A'4, n'4, c'4, rfl, h4, hbr⟩
      have hz := hK.out _ _ ⟨b4, A4, n4, c4, A'4, n'4, c'4, rfl, h4⟩ hbr
      simp only [dq2, dq4] at hz
      exact hz⟩
  · exact .inl ⟨by simp, by simp, fun xf wq hk hbl hd K hK => by
      obtain ⟨b3, A3, n3, c3, A'3, n'3, c'3, dq0, h3⟩ : VQ (((1 : Int) : Rat)) (1) (xf 0) wq := hd ⟨0, .data⟩ (by simp) rfl
      obtain ⟨b4, A4, n4, c4, A'4, n'4, c'4, dq5, h4⟩ : VQ (((t).t) * ((t').t)) ((k) + (k')) (xf 5) wq := hd ⟨5, .data⟩ (by simp) rfl
      (try dsimp only); (try simp only [dq0, dq5])
      go_simp
      go_at_call 43
      (with_reducible refine (g_sub _ b3 A3 n3 c3 A'3 n'3 c'3 (((1 : Int) : Rat)) (1) ?_ b4 A4 n4 c4 A'4 n'4 c'4 (((t).t) * ((t').t)) ((k) + (k')) ?_ ?_ ?_ ?_ ?_).mono ?_); (exact h3.qz); (exact h4.qz); (first | omega | decide | assumption); (first | omega | decide | assumption); (first | omega | decide | assumption); (first | omega | decide | assumption); rintro e wr ⟨b5, A5, n5, c5, A'5, n'5, c'5, rfl, h5, hbr⟩
      have hz := hK.out _ _ ⟨b5, A5, n5, c5, A'5, n'5, c'5, rfl, h5⟩ hbr
      simp only [dq0, dq5] at hz
      exact hz⟩
  · exact .inr (.inl ⟨⟨7, 8, 24, #[.bool false, .slice none 0 0, .slice none 0 0], CQ ((((1 : Int) : Rat)) - (((t).t) * ((t').t))) ((1) + ((k) + (k')) + 1)⟩, by simp, rfl, by simp, by simp, by simp, fun _ _ => True.intro, fun xf wq K hK => by
      (try dsimp only)
      go_simp
      exact hK.out⟩)
  · exact .inr (.inr (.inl ⟨⟨7, 8, 24, #[.bool false, .slice none 0 0, .slice none 0 0], CQ ((((1 : Int) : Rat)) - (((t).t) * ((t').t))) ((1) + ((k) + (k')) + 1)⟩, by simp, rfl, by simp, by simp, by simp, by simp, (show KT 24 = false by decide), fun _ _ => True.intro, ⟨⟨7, .data⟩, by simp, rfl, rfl⟩, fun xf wq g hx hblk hd => by
      obtain ⟨b5, A5, n5, c5, A'5, n'5, c'5, dq6, h5⟩ : VQ ((((1 : Int) : Rat)) - (((t).t) * ((t').t))) ((1) + ((k) + (k')) + 1) (xf 6) wq := hd ⟨6, .data⟩ (by simp) rfl
      dsimp only at hx hblk
      refine ⟨[.bool b5, .slice A5 n5 c5, .slice A'5 n'5 c'5], fun w' hk => ⟨b5, A5, n5, c5, A'5, n'5, c'5, rfl, h5.keep hk⟩, fun K hK => ?_⟩
      have hc0 : wq.cell? ⟨g, 0, none⟩ = some (.bool false) := hblk.cell 0
      have hc1 : wq.cell? ⟨g, 1, none⟩ = some (.slice none 0 0) := hblk.cell 1
      have hc2 : wq.cell? ⟨g, 2, none⟩ = some (.slice none 0 0) := hblk.cell 2
      have hf0 : wq.frozen? ⟨g, 0, none⟩ = false := hblk.frozen 0
      have hf1 : wq.frozen? ⟨g, 1, none⟩ = false := hblk.frozen 1
      have hf2 : wq.frozen? ⟨g, 2, none⟩ = false := hblk.frozen 2
      (try dsimp only)
      simp only [hx, dq6]
      go_simp
      have hz := hK.out undef
      simp only [hx, dq6] at hz
      exact hz⟩))
  clear cx1_0_0 cx1_0_1 cx1_0_2 cx1_0_3 lx1_0_0 lx1_0_1 lx1_0_2 lx1_0_3 cx1_1_0 cx1_1_1 cx1_1_2 cx1_1_3 lx1_1_0 lx1_1_1 lx1_1_2 lx1_1_3
  intro y2 w2 kq2 hbl2 lw2 how hrr hfl hds
  replace h := h.keep kq2
  replace h' := h'.keep kq2
  obtain ⟨_, z2_0, ez, _⟩ := how _ (List.Mem.head _)
  obtain rfl := ez (by simp)
  dsimp only at z2_0
  obtain ⟨_, z2_1, ez, _⟩ := how _ (List.Mem.tail _ (List.Mem.head _))
  obtain rfl := ez (by simp)
  dsimp only at z2_1
  obtain ⟨_, z2_2, ez, _⟩ := how _ (List.Mem.tail _ (List.Mem.tail _ (List.Mem.head _)))
  obtain rfl := ez (by simp)
  dsimp only at z2_2
  obtain ⟨g5_2, _, eg5_2, Gg5_2, xg5_2, ⟨b5, A5, n5, c5, A'5, n'5, c'5, rfl, h5⟩⟩ := hfl _ (List.Mem.head _)
  dsimp only at eg5_2 Gg5_2 xg5_2
  have lgg5_2 : g5_2 < w2.heap.size := xg5_2.lt
  (try dsimp only)
  simp only [eg5_2]
  clear hrr hfl how hds eg5_2
  clear x1_0 x1_1 x1_2
  have bw2 : Below w.heap.size w w2 := bw1.trans hbl2
  clear bw1
  have cxg5_2_0 : w2.cell? ⟨g5_2, 0, none⟩ = some (.bool b5) := xg5_2.cell 0
  have cxg5_2_1 : w2.cell? ⟨g5_2, 1, none⟩ = some (.slice A5 n5 c5) := xg5_2.cell 1
  have cxg5_2_2 : w2.cell? ⟨g5_2, 2, none⟩ = some (.slice A'5 n'5 c'5) := xg5_2.cell 2
  obtain ⟨lxg5_2_0, lxg5_2_1, lxg5_2_2, lxg5_2_3⟩ := lts0 xg5_2.lt
  go_wp2_with fail
  (with_reducible refine (g_sign_e _ b5 A5 n5 c5 A'5 n'5 c'5 ((((1 : Int) : Rat)) - (((t).t) * ((t').t))) ((1) + ((k) + (k')) + 1) ?_ (0) ?_ ?_ ?_).mono ?_); (exact h5.qz); (exact HZ.out); (first | omega | decide | assumption); (first | omega | decide | assumption); rintro e w7 ⟨rfl, hb7⟩
  clear cxg5_2_0 cxg5_2_1 cxg5_2_2 lxg5_2_0 lxg5_2_1 lxg5_2_2 lxg5_2_3
  have q7 : Below w2.heap.size w2 w7 := hb7
  replace h := h.belw q7
  replace h' := h'.belw q7
  replace h5 := h5.belw q7
  replace z2_0 := z2_0.below q7 z2_0.lt
  replace z2_1 := z2_1.below q7 z2_1.lt
  replace z2_2 := z2_2.below q7 z2_2.lt
  replace xg5_2 := xg5_2.below q7 xg5_2.lt
  have bw7 : Below w.heap.size w w7 := bw2.trans (q7.mono bw2.size)
  have lw7 : w2.heap.size ≤ w7.heap.size := q7.size
  clear hb7 q7 bw2
  obtain ⟨cz2_2_0, cz2_2_1, cz2_2_2, cz2_2_3⟩ := z2_2.c4
  obtain ⟨fz2_2_0, fz2_2_1, fz2_2_2, fz2_2_3⟩ := z2_2.f4
  obtain ⟨lz2_2_0, lz2_2_1, lz2_2_2, lz2_2_3⟩ := lts2 z2_2.lt
  go_wp2_with fail
  refine bodyPost_ret (v := .agg #[.bool false, .slice none 0 0, .slice none 0 0, .bool true]) (by simp [results, Tryz.results18, go_sem, *] <;> first | rfl | exact ⟨rfl, rfl⟩) rfl ?_
  have kp := (((((Kp.refl w7).setB (p := ⟨w.heap.size + 1 + 1, 0, none⟩) z2_2.box (by decide) (.bool false)).setB (p := ⟨w.heap.size + 1 + 1, 1, none⟩) (z2_2.box.set ⟨w.heap.size + 1 + 1, 0, none⟩ (.bool false)) (by decide) (.slice none 0 0)).setB (p := ⟨w.heap.size + 1 + 1, 2, none⟩) ((z2_2.box.set ⟨w.heap.size + 1 + 1, 0, none⟩ (.bool false)).set ⟨w.heap.size + 1 + 1, 1, none⟩ (.slice none 0 0)) (by decide) (.slice none 0 0)).setB (p := ⟨w.heap.size + 1 + 1, 3, none⟩) (((z2_2.box.set ⟨w.heap.size + 1 + 1, 0, none⟩ (.bool false)).set ⟨w.heap.size + 1 + 1, 1, none⟩ (.slice none 0 0)).set ⟨w.heap.size + 1 + 1, 2, none⟩ (.slice none 0 0)) (by decide) (.bool true))
  exact ⟨false, none, 0, 0, none, 0, 0, true, rfl, tv_half _ _, ((((bw7.setCell (p := ⟨w.heap.size + 1 + 1, 0, none⟩) (by dsimp only; omega) (.bool false)).setCell (p := ⟨w.heap.size + 1 + 1, 1, none⟩) (by dsimp only; omega) (.slice none 0 0)).setCell (p := ⟨w.heap.size + 1 + 1, 2, none⟩) (by dsimp only; omega) (.slice none 0 0)).setCell (p := ⟨w.heap.size + 1 + 1, 3, none⟩) (by dsimp only; omega) (.bool true))⟩
set_option maxRecDepth 100000 in
set_option maxHeartbeats 4000000 in
/-- linkworkref12.Add -/
theorem u_Add_ff1 (w : World) (b : Bool) (A : Option Addr) (n c : Nat) (D : Option Addr) (m e : Nat) (t : TN) (k : Nat) (h : TK w b A n c D m e false t k) (b' : Bool) (A' : Option Addr) (n' c' : Nat) (D' : Option Addr) (m' e' : Nat) (t' : TN) (k' : Nat) (h' : TK w b' A' n' c' D' m' e' false t' k') (h0 : 0 < k) (hk : k ≤ 1000000) (h0' : 0 < k') (hk' : k' ≤ 1000000) (hz : ((1 : Int) : Rat) - t.t * t'.t ≠ 0) :
    Calls Tryz.prog 18 #[.agg #[.bool b, .slice A n c, .slice D m e, .bool false], .agg #[.bool b', .slice A' n' c', .slice D' m' e', .bool false]] w (RetT w (tadd t t') (2 * k + 2 * k' + 3)) := by
  have HT := Lib.hid (show tadd t t' = ⟨(t.t + t'.t) / (((1 : Int) : Rat) - t.t * t'.t), false⟩ by unfold tadd tadd1; have hz' : ¬ (1 - t.t * t'.t = 0) := hz; simp [← h.2.1, ← h'.2.1, hz'])
  obtain ⟨s, hs⟩ : ∃ s, (((1 : Int) : Rat) - t.t * t'.t).num.sign = s := ⟨_, rfl⟩
  have e0 := sgn_ne hs hz
  have HZ := Lib.hid hs
  have HNE := Lib.hid hz
  clear hz hs
  go_enter Tryz.func18, Tryz.ntmps18
  go_wp2_with fail
  have p1 : Kp w (((w.alloc (.cells #[.bool b, .slice A n c, .slice D m e, .bool false] 26)).alloc (.cells #[.bool b', .slice A' n' c', .slice D' m' e', .bool false] 26)).alloc (.cells #[.bool false, .slice none 0 0, .slice none 0 0, .bool false] 26)) := ((((Kp.refl w).alloc (.cells #[.bool b, .slice A n c, .slice D m e, .bool false] 26)).alloc (.cells #[.bool b', .slice A' n' c', .slice D' m' e', .bool false] 26)).alloc (.cells #[.bool false, .slice none 0 0, .slice none 0 0, .bool false] 26))
  have bw1 : Below w.heap.size w (((w.alloc (.cells #[.bool b, .slice A n c, .slice D m e, .bool false] 26)).alloc (.cells #[.bool b', .slice A' n' c', .slice D' m' e', .bool false] 26)).alloc (.cells #[.bool false, .slice none 0 0, .slice none 0 0, .bool false] 26)) := ((((brefl w).alloc (by first | omega | (simp <;> omega)) (.cells #[.bool b, .slice A n c, .slice D m e, .bool false] 26)).alloc (by first | omega | (simp <;> omega)) (.cells #[.bool b', .slice A' n' c', .slice D' m' e', .bool false] 26)).alloc (by first | omega | (simp <;> omega)) (.cells #[.bool false, .slice none 0 0, .slice none 0 0, .bool false] 26))
  have x1_0 : Blk (((w.alloc (.cells #[.bool b, .slice A n c, .slice D m e, .bool false] 26)).alloc (.cells #[.bool b', .slice A' n' c', .slice D' m' e', .bool false] 26)).alloc (.cells #[.bool false, .slice none 0 0, .slice none 0 0, .bool false] 26)) (w.heap.size) 26 #[.bool b, .slice A n c, .slice D m e, .bool false] := (((blkAt _ _ _ (by simp)).alloc (.cells #[.bool b', .slice A' n' c', .slice D' m' e', .bool false] 26)).alloc (.cells #[.bool false, .slice none 0 0, .slice none 0 0, .bool false] 26))
  have x1_1 : Blk (((w.alloc (.cells #[.bool b, .slice A n c, .slice D m e, .bool false] 26)).alloc (.cells #[.bool b', .slice A' n' c', .slice D' m' e', .bool false] 26)).alloc (.cells #[.bool false, .slice none 0 0, .slice none 0 0, .bool false] 26)) (w.heap.size + 1) 26 #[.bool b', .slice A' n' c', .slice D' m' e', .bool false] := ((blkAt _ _ _ (by simp)).alloc (.cells #[.bool false, .slice none 0 0, .slice none 0 0, .bool false] 26))
  have x1_2 : Blk (((w.alloc (.cells #[.bool b, .slice A n c, .slice D m e, .bool false] 26)).alloc (.cells #[.bool b', .slice A' n' c', .slice D' m' e', .bool false] 26)).alloc (.cells #[.bool false, .slice none 0 0, .slice none 0 0, .bool false] 26)) (w.heap.size + 1 + 1) 26 #[.bool false, .slice none 0 0, .slice none 0 0, .bool false] := (blkAt _ _ _ (by simp))
  have lw1 : w.heap.size + 3 ≤ (((w.alloc (.cells #[.bool b, .slice A n c, .slice D m e, .bool false] 26)).alloc (.cells #[.bool b', .slice A' n' c', .slice D' m' e', .bool false] 26)).alloc (.cells #[.bool false, .slice none 0 0, .slice none 0 0, .bool false] 26)).heap.size := by simp
  generalize hE1 : (((w.alloc (.cells #[.bool b, .slice A n c, .slice D m e, .bool false] 26)).alloc (.cells #[.bool b', .slice A' n' c', .slice D' m' e', .bool false] 26)).alloc (.cells #[.bool false, .slice none 0 0, .slice none 0 0, .bool false] 26)) = w1 at p1 bw1 lw1 x1_0 x1_1 x1_2 ⊢
  clear hE1
  replace h := h.keep p1
  replace h' := h'.keep p1
  obtain ⟨cx1_0_0, cx1_0_1, cx1_0_2, cx1_0_3⟩ := x1_0.c4
  obtain ⟨lx1_0_0, lx1_0_1, lx1_0_2, lx1_0_3⟩ := lts0 x1_0.lt
  obtain ⟨cx1_1_0, cx1_1_1, cx1_1_2, cx1_1_3⟩ := x1_1.c4
  obtain ⟨lx1_1_0, lx1_1_1, lx1_1_2, lx1_1_3⟩ := lts1 x1_1.lt
  refine wp_region_lin (B := w.heap.size) (fr := fun xf => ⟨List.toArray (.agg #[.bool b, .slice A n c, .slice D m e, .bool false] :: .agg #[.bool b', .slice A' n' c', .slice D' m' e', .bool false] :: .pointer (some ⟨w.heap.size, 0, none⟩) :: .pointer (some ⟨w.heap.size + 1, 0, none⟩) :: .pointer (some ⟨w.heap.size + 1 + 1, 0, none⟩) :: xf 7 :: _ :: .pointer (some ⟨w.heap.size, 3, none⟩) :: .bool false :: .bool false :: _ :: _ :: _ :: undef :: .bool false :: .pointer (some ⟨w.heap.size + 1, 3, none⟩) :: .bool false :: undef :: undef :: undef :: _ :: .pointer (some ⟨w.heap.size, 3, none⟩) :: .bool false :: .bool false :: _ :: _ :: _ :: _ :: _ :: undef :: .bool false :: .pointer (some ⟨w.heap.size, 3, none⟩) :: .bool false :: undef :: undef :: undef :: undef :: undef :: undef :: xf 0 :: xf 1 :: xf 2 :: xf 3 :: xf 4 :: xf 5 :: xf 6 :: undef :: undef :: undef :: undef :: undef :: undef :: undef :: undef :: undef :: undef :: undef :: undef :: []), []⟩) (R := fun i => List.getD ((VQ (((1 : Int) : Rat)) (1)) :: (PEq (.pointer (some ⟨w.heap.size, 0, none⟩))) :: (PEq (.agg #[.bool b, .slice A n c, .slice D m e])) :: (PEq (.pointer (some ⟨w.heap.size + 1, 0, none⟩))) :: (PEq (.agg #[.bool b', .slice A' n' c', .slice D' m' e'])) :: (VQ (((t).t) * ((t').t)) ((k) + (k'))) :: (VQ ((((1 : Int) : Rat)) - (((t).t) * ((t').t))) ((1) + ((k) + (k')) + 1)) :: PAny :: PAny :: []) i (fun _ _ => True)) (es := [⟨7, 8, 24, #[.bool false, .slice none 0 0, .slice none 0 0], CQ ((((1 : Int) : Rat)) - (((t).t) * ((t').t))) ((1) + ((k) + (k')) + 1)⟩]) (ow := [⟨w.heap.size, 9, 0, 26, #[.bool b, .slice A n c, .slice D m e, .bool false], CAny⟩, ⟨w.heap.size + 1, 9, 0, 26, #[.bool b', .slice A' n' c', .slice D' m' e', .bool false], CAny⟩, ⟨w.heap.size + 1 + 1, 9, 0, 26, #[.bool false, .slice none 0 0, .slice none 0 0, .bool false], CAny⟩]) (x0 := (fun _ => undef)) (by kernel_rfl)
    (each_of ⟨fun _ _ => rfl, fun _ _ => rfl, fun _ _ => rfl, fun _ _ => rfl, fun _ _ => rfl, fun _ _ => rfl, fun _ _ => rfl, fun _ _ => rfl, fun _ _ => rfl, trivial⟩) (each_of (acyc_from _ 0 (by kernel_rfl))) (AllStab.get _ ⟨stQ _ _, stEq _, stEq _, stEq _, stEq _, stQ _ _, stQ _ _, stAny, stAny, trivial⟩)
    (List.forall_mem_cons.2 ⟨scQ _ _, fun _ h => nomatch h⟩) (List.forall_mem_cons.2 ⟨scAny, List.forall_mem_cons.2 ⟨scAny, List.forall_mem_cons.2 ⟨scAny, fun _ h => nomatch h⟩⟩⟩) (List.forall_mem_cons.2 ⟨⟨by simp, by simp⟩, fun _ h => nomatch h⟩) bw1.size
    (List.forall_mem_cons.2 ⟨⟨x1_0, by show w.heap.size ≤ w.heap.size; omega⟩, List.forall_mem_cons.2 ⟨⟨x1_1, by show w.heap.size ≤ w.heap.size + 1; omega⟩, List.forall_mem_cons.2 ⟨⟨x1_2, by show w.heap.size ≤ w.heap.size + 1 + 1; omega⟩, fun _ h => nomatch h⟩⟩⟩) (ownDist (by simp <;> omega))
    (each_of ⟨?_, ?_, ?_, ?_, ?_, ?_, ?_, ?_, ?_, trivial⟩) ?_
  · exact .inl ⟨by simp, by simp, fun xf wq hk hbl hd K hK => by
      (try dsimp only)
      go_simp
      go_at_call 48
      (with_reducible refine (u_one _).mono ?_); rintro e wr ⟨b3, A3, n3, c3, A'3, n'3, c'3, rfl, h3, hbr⟩
      exact hK.out _ _ ⟨b3, A3, n3, c3, A'3, n'3, c'3, rfl, h3⟩ hbr⟩
  · exact .inl ⟨by simp, by simp, fun xf wq hk hbl hd K hK => by
      (try dsimp only)
      go_simp
      exact hK.out (.pointer (some ⟨w.heap.size, 0, none⟩)) _ rfl (brefl _)⟩
  · exact .inl ⟨by simp, by simp, fun xf wq hk hbl hd K hK => by
      have dq1 : xf 1 = .pointer (some ⟨w.heap.size, 0, none⟩) := hd ⟨1, .data⟩ (by simp) rfl
      have y : Blk wq (w.heap.size) 26 #[.bool b, .slice A n c, .slice D m e, .bool false] := hbl _ (List.Mem.head _) (by simp [Region.binds])
      obtain ⟨hcl0, hcl1, hcl2, hcl3⟩ := y.c4
      (try dsimp only); (try simp only [dq1])
      go_simp
      have hz := hK.out (.agg #[.bool b, .slice A n c, .slice D m e]) _ rfl (brefl _)
      simp only [dq1] at hz
      exact hz⟩
  · exact .inl ⟨by simp, by simp, fun xf wq hk hbl hd K hK => by
      (try dsimp only)
      go_simp
      exact hK.out (.pointer (some ⟨w.heap.size + 1, 0, none⟩)) _ rfl (brefl _)⟩
  · exact .inl ⟨by simp, by simp, fun xf wq hk hbl hd K hK => by
      have dq3 : xf 3 = .pointer (some ⟨w.heap.size + 1, 0, none⟩) := hd ⟨3, .data⟩ (by simp) rfl
      have y : Blk wq (w.heap.size + 1) 26 #[.bool b', .slice A' n' c', .slice D' m' e', .bool false] := hbl _ (List.Mem.tail _ (List.Mem.head _)) (by simp [Region.binds])
      obtain ⟨hcl0, hcl1, hcl2, hcl3⟩ := y.c4
      (try dsimp only); (try simp only [dq3])
      go_simp
      have hz := hK.out (.agg #[.bool b', .slice A' n' c', .slice D' m' e']) _ rfl (brefl _)
      simp only [dq3] at hz
      exact hz⟩
  · exact .inl ⟨by simp, by simp, fun xf wq hk hbl hd K hK => by
      have dq2 : xf 2 = .agg #[.bool b, .slice A n c, .slice D m e] := hd ⟨2, .data⟩ (by simp) rfl
      have dq4 : xf 4 = .agg #[.bool b', .slice A' n' c', .slice D' m' e'] := hd ⟨4, .data⟩ (by simp) rfl
      (try dsimp only); (try simp only [dq2, dq4])
      go_simp
      go_at_call 44
      (with_reducible refine (g_mul _ b A n c D m e ((t).t) (k) ?_ b' A' n' c' D' m' e' ((t').t) (k') ?_ ?_ ?_ ?_ ?_).mono ?_); (exact (h.keep hk).qz); (exact (h'.keep hk).qz); (first | omega | decide | assumption); (first | omega | decide | assumption); (first | omega | decide | assumption); (first | omega | decide | assumption); rintro e wr ⟨b4, A4, n4, c4, A'4, n'4, c'4, rfl, h4, hbr⟩
      have hz := hK.out _ _ ⟨b4, A4, n4, c4, A'4, n'4, c'4, rfl, h4⟩ hbr
      simp only [dq2, dq4] at hz
      exact hz⟩
  · exact .inl ⟨by simp, by simp, fun xf wq hk hbl hd K hK => by
      obtain ⟨b3, A3, n3, c3, A'3, n'3, c'3, dq0, h3⟩ : VQ (((1 : Int) : Rat)) (1) (xf 0) wq := hd ⟨0, .data⟩ (by simp) rfl
      obtain ⟨b4, A4, n4, c4, A'4, n'4, c'4, dq5, h4⟩ : VQ (((t).t) * ((t').t)) ((k) + (k')) (xf 5) wq := hd ⟨5, .data⟩ (by simp) rfl
      (try dsimp only); (try simp only [dq0, dq5])
      go_simp
      go_at_call 43
      (with_reducible refine (g_sub _ b3 A3 n3 c3 A'3 n'3 c'3 (((1 : Int) : Rat)) (1) ?_ b4 A4 n4 c4 A'4 n'4 c'4 (((t).t) * ((t').t)) ((k) + (k')) ?_ ?_ ?_ ?_ ?_).mono ?_); (exact h3.qz); (exact h4.qz); (first | omega | decide | assumption); (first | omega | decide | assumption); (first | omega | decide | assumption); (first | omega | decide | assumption); rintro e wr ⟨b5, A5, n5, c5, A'5, n'5, c'5, rfl, h5, hbr⟩
      have hz := hK.out _ _ ⟨b5, A5, n5, c5, A'5, n'5, c'5, rfl, h5⟩ hbr
      simp only [dq0, dq5] at hz
      exact hz⟩
  · exact .inr (.inl ⟨⟨7, 8, 24, #[.bool false, .slice none 0 0, .slice none 0 0], CQ ((((1 : Int) : Rat)) - (((t).t) * ((t').t))) ((1) + ((k) + (k')) + 1)⟩, by simp, rfl, by simp, by simp, by simp, fun _ _ => True.intro, fun xf wq K hK => by
      (try dsimp only)
      go_simp
      exact hK.out⟩)
  · exact .inr (.inr (.inl ⟨⟨7, 8, 24, #[.bool false, .slice none 0 0, .slice none 0 0], CQ ((((1 : Int) : Rat)) - (((t).t) * ((t').t))) ((1) + ((k) + (k')) + 1)⟩, by simp, rfl, by simp, by simp, by simp, by simp, (show KT 24 = false by decide), fun _ _ => True.intro, ⟨⟨7, .data⟩, by simp, rfl, rfl⟩, fun xf wq g hx hblk hd => by
      obtain ⟨b5, A5, n5, c5, A'5, n'5, c'5, dq6, h5⟩ : VQ ((((1 : Int) : Rat)) - (((t).t) * ((t').t))) ((1) + ((k) + (k')) + 1) (xf 6) wq := hd ⟨6, .data⟩ (by simp) rfl
      dsimp only at hx hblk
      refine ⟨[.bool b5, .slice A5 n5 c5, .slice A'5 n'5 c'5], fun w' hk => ⟨b5, A5, n5, c5, A'5, n'5, c'5, rfl, h5.keep hk⟩, fun K hK => ?_⟩
      have hc0 : wq.cell? ⟨g, 0, none⟩ = some (.bool false) := hblk.cell 0
      have hc1 : wq.cell? ⟨g, 1, none⟩ = some (.slice none 0 0) := hblk.cell 1
      have hc2 : wq.cell? ⟨g, 2, none⟩ = some (.slice none 0 0) := hblk.cell 2
      have hf0 : wq.frozen? ⟨g, 0, none⟩ = false := hblk.frozen 0
      have hf1 : wq.frozen? ⟨g, 1, none⟩ = false := hblk.frozen 1
      have hf2 : wq.frozen? ⟨g, 2, none⟩ = false := hblk.frozen 2
      (try dsimp only)
      simp only [hx, dq6]
      go_simp
      have hz := hK.out undef
      simp only [hx, dq6] at hz
      exact hz⟩))
  clear cx1_0_0 cx1_0_1 cx1_0_2 cx1_0_3 lx1_0_0 lx1_0_1 lx1_0_2 lx1_0_3 cx1_1_0 cx1_1_1 cx1_1_2 cx1_1_3 lx1_1_0 lx1_1_1 lx1_1_2 lx1_1_3
  intro y2 w2 kq2 hbl2 lw2 how hrr hfl hds
  replace h := h.keep kq2
  replace h' := h'.keep kq2
  obtain ⟨_, z2_0, ez, _⟩ := how _ (List.Mem.head _)
  obtain rfl := ez (by simp)
  dsimp only at z2_0
  obtain ⟨_, z2_1, ez, _⟩ := how _ (List.Mem.tail _ (List.Mem.head _))
  obtain rfl := ez (by simp)
  dsimp only at z2_1
  obtain ⟨_, z2_2, ez, _⟩ := how _ (List.Mem.tail _ (List.Mem.tail _ (List.Mem.head _)))
  obtain rfl := ez (by simp)
  dsimp only at z2_2
  obtain ⟨g5_2, _, eg5_2, Gg5_2, xg5_2, ⟨b5, A5, n5, c5, A'5, n'5, c'5, rfl, h5⟩⟩ := hfl _ (List.Mem.head _)
  dsimp only at eg5_2 Gg5_2 xg5_2
  have lgg5_2 : g5_2 < w2.heap.size := xg5_2.lt
  (try dsimp only)
  simp only [eg5_2]
  clear hrr hfl how hds eg5_2
  clear x1_0 x1_1 x1_2
  have bw2 : Below w.heap.size w w2 := bw1.trans hbl2
  clear bw1
  obtain ⟨cxg5_2_0, cxg5_2_1, cxg5_2_2⟩ := xg5_2.c3
  obtain ⟨lxg5_2_0, lxg5_2_1, lxg5_2_2, lxg5_2_3⟩ := lts0 xg5_2.lt
  go_wp2_with fail
  (with_reducible refine (g_sign_e _ b5 A5 n5 c5 A'5 n'5 c'5 ((((1 : Int) : Rat)) - (((t).t) * ((t').t))) ((1) + ((k) + (k')) + 1) ?_ (s) ?_ ?_ ?_).mono ?_); (exact h5.qz); (exact HZ.out); (first | omega | decide | assumption); (first | omega | decide | assumption); rintro e w7 ⟨rfl, hb7⟩
  clear cxg5_2_0 cxg5_2_1 cxg5_2_2 lxg5_2_0 lxg5_2_1 lxg5_2_2 lxg5_2_3
  have q7 : Below w2.heap.size w2 w7 := hb7
  replace h := h.belw q7
  replace h' := h'.belw q7
  replace h5 := h5.belw q7
  replace z2_0 := z2_0.below q7 z2_0.lt
  replace z2_1 := z2_1.below q7 z2_1.lt
  replace z2_2 := z2_2.below q7 z2_2.lt
  replace xg5_2 := xg5_2.below q7 xg5_2.lt
  have bw7 : Below w.heap.size w w7 := bw2.trans (q7.mono bw2.size)
  have lw7 : w2.heap.size ≤ w7.heap.size := q7.size
  clear hb7 q7 bw2
  obtain ⟨cz2_0_0, cz2_0_1, cz2_0_2, cz2_0_3⟩ := z2_0.c4
  obtain ⟨lz2_0_0, lz2_0_1, lz2_0_2, lz2_0_3⟩ := lts0 z2_0.lt
  obtain ⟨cz2_1_0, cz2_1_1, cz2_1_2, cz2_1_3⟩ := z2_1.c4
  obtain ⟨lz2_1_0, lz2_1_1, lz2_1_2, lz2_1_3⟩ := lts1 z2_1.lt
  obtain ⟨cz2_2_0, cz2_2_1, cz2_2_2, cz2_2_3⟩ := z2_2.c4
  obtain ⟨fz2_2_0, fz2_2_1, fz2_2_2, fz2_2_3⟩ := z2_2.f4
  obtain ⟨lz2_2_0, lz2_2_1, lz2_2_2, lz2_2_3⟩ := lts2 z2_2.lt
  obtain ⟨cxg5_2_0, cxg5_2_1, cxg5_2_2⟩ := xg5_2.c3
  obtain ⟨lxg5_2_0, lxg5_2_1, lxg5_2_2, lxg5_2_3⟩ := lts0 xg5_2.lt
  go_wp2_with fail
  have nfz2_0_0 : ¬ w.heap.size = w.heap.size + 1 + 1 := by omega
  have nez2_0_0 : ¬ w.heap.size = w.heap.size + 2 := by omega
  have nfz2_1_0 : ¬ w.heap.size + 1 = w.heap.size + 1 + 1 := by omega
  have nez2_1_0 : ¬ w.heap.size = w.heap.size + 1 := by omega
  have nfxg5_2_0 : ¬ g5_2 = w.heap.size + 1 + 1 := by omega
  have nexg5_2_0 : ¬ g5_2 = w.heap.size + 2 := by omega
  go_region_held3 (fun w' => SeesX w7.heap.size (w.heap.size + 1 + 1) w7 w') (first | with_reducible exact SeesX.of (Nat.le_refl _) (by assumption) | with_reducible exact SeesX.of (Nat.le_refl _) (brefl _).drew | with_reducible exact (SeesX.set (SeesX.set (SeesX.set (SeesX.set (SeesX.of (Nat.le_refl _) (by assumption)))))) | with_reducible exact (SeesX.set (SeesX.set (SeesX.set (SeesX.of (Nat.le_refl _) (by assumption))))) | with_reducible exact (SeesX.set (SeesX.set (SeesX.of (Nat.le_refl _) (by assumption)))) | with_reducible exact (SeesX.set (SeesX.of (Nat.le_refl _) (by assumption))) | exact SeesX.of (Nat.le_refl _) (below_drewN (brefl _) 1) | exact SeesX.of (Nat.le_refl _) (below_drewN (by assumption) _))
    (first
      | (go_at_call 45; (with_reducible refine (g_add _ b A n c D m e ((t).t) (k) ?_ b' A' n' c' D' m' e' ((t').t) (k') ?_ ?_ ?_ ?_ ?_).mono ?_); (exact h.qz); (exact h'.qz); (first | omega | decide | assumption); (first | omega | decide | assumption); (first | omega | decide | assumption); (first | omega | decide | assumption); rintro e w8 ⟨b8, A8, n8, c8, A'8, n'8, c'8, rfl, h8, hb8⟩; replace hb8 := bnext (below_drewN (brefl _) 1) hb8; have q8 : Below w7.heap.size w7 w8 := bnext (brefl w7) hb8; replace h := h.belw hb8; replace h' := h'.belw hb8; replace h5 := h5.belw hb8)
      | (go_at_call 47; (with_reducible refine (u_over _ b8 A8 n8 c8 A'8 n'8 c'8 (((t).t) + ((t').t)) ((k) + (k') + 1) ?_ b5 A5 n5 c5 A'5 n'5 c'5 ((((1 : Int) : Rat)) - (((t).t) * ((t').t))) ((1) + ((k) + (k')) + 1) ?_ ?_ ?_ ?_ ?_ ?_).mono ?_); (exact h8.qz); (exact h5.qz); (first | omega | decide | assumption); (first | omega | decide | assumption); (first | omega | decide | assumption); (first | omega | decide | assumption); (exact HNE.out); rintro e w9 ⟨b9, A9, n9, c9, A'9, n'9, c'9, rfl, h9, hb9⟩; have q9 : Below w7.heap.size w7 w9 := bnext q8 hb9; replace h := h.belw hb9; replace h' := h'.belw hb9; replace h5 := h5.belw hb9; replace h8 := h8.belw hb9; have z2_2 : Blk w9 (w.heap.size + 1 + 1) 26 #[.bool false, .slice none 0 0, .slice none 0 0, .bool false] := z2_2.below q9 z2_2.lt; obtain ⟨cz2_2_0, cz2_2_1, cz2_2_2, cz2_2_3⟩ := z2_2.c4; obtain ⟨fz2_2_0, fz2_2_1, fz2_2_2, fz2_2_3⟩ := z2_2.f4))
  have bw9 : Below w.heap.size w w9 := bw7.trans (q9.mono bw7.size)
  clear cz2_0_0 cz2_0_1 cz2_0_2 cz2_0_3 lz2_0_0 lz2_0_1 lz2_0_2 lz2_0_3 cz2_1_0 cz2_1_1 cz2_1_2 cz2_1_3 lz2_1_0 lz2_1_1 lz2_1_2 lz2_1_3 cz2_2_0 fz2_2_0 cz2_2_1 fz2_2_1 cz2_2_2 fz2_2_2 cz2_2_3 fz2_2_3 lz2_2_0 lz2_2_1 lz2_2_2 lz2_2_3 cxg5_2_0 cxg5_2_1 cxg5_2_2 lxg5_2_0 lxg5_2_1 lxg5_2_2 lxg5_2_3
  replace z2_0 := z2_0.below q9 z2_0.lt
  replace z2_1 := z2_1.below q9 z2_1.lt
  replace xg5_2 := xg5_2.below q9 xg5_2.lt
  have lw9 : w7.heap.size ≤ w9.heap.size := q9.size
  obtain ⟨cz2_2_0, cz2_2_1, cz2_2_2, cz2_2_3⟩ := z2_2.c4
  obtain ⟨fz2_2_0, fz2_2_1, fz2_2_2, fz2_2_3⟩ := z2_2.f4
  go_wp2_with fail
  rw [HT.out]
  refine bodyPost_ret (v := .agg #[.bool b9, .slice A9 n9 c9, .slice A'9 n'9 c'9, .bool false]) (by simp [results, Tryz.results18, go_sem, *] <;> first | rfl | exact ⟨rfl, rfl⟩) rfl ?_
  have kp := (((((Kp.refl w9).setB (p := ⟨w.heap.size + 1 + 1, 0, none⟩) z2_2.box (by decide) (.bool b9)).setB (p := ⟨w.heap.size + 1 + 1, 1, none⟩) (z2_2.box.set ⟨w.heap.size + 1 + 1, 0, none⟩ (.bool b9)) (by decide) (.slice A9 n9 c9)).setB (p := ⟨w.heap.size + 1 + 1, 2, none⟩) ((z2_2.box.set ⟨w.heap.size + 1 + 1, 0, none⟩ (.bool b9)).set ⟨w.heap.size + 1 + 1, 1, none⟩ (.slice A9 n9 c9)) (by decide) (.slice A'9 n'9 c'9)).setB (p := ⟨w.heap.size + 1 + 1, 3, none⟩) (((z2_2.box.set ⟨w.heap.size + 1 + 1, 0, none⟩ (.bool b9)).set ⟨w.heap.size + 1 + 1, 1, none⟩ (.slice A9 n9 c9)).set ⟨w.heap.size + 1 + 1, 2, none⟩ (.slice A'9 n'9 c'9)) (by decide) (.bool false))
  exact ⟨b9, A9, n9, c9, A'9, n'9, c'9, false, rfl, (tv_mk (h9.keep kp)).mono (by omega), ((((bw9.setCell (p := ⟨w.heap.size + 1 + 1, 0, none⟩) (by dsimp only; omega) (.bool b9)).setCell (p := ⟨w.heap.size + 1 + 1, 1, none⟩) (by dsimp only; omega) (.slice A9 n9 c9)).setCell (p := ⟨w.heap.size + 1 + 1, 2, none⟩) (by dsimp only; omega) (.slice A'9 n'9 c'9)).setCell (p := ⟨w.heap.size + 1 + 1, 3, none⟩) (by dsimp only; omega) (.bool false))⟩
theorem u_Add (w : World) (b : Bool) (A : Option Addr) (n c : Nat) (D : Option Addr) (m e : Nat) (x : Bool) (t : TN) (k : Nat) (h : TK w b A n c D m e x t k) (b' : Bool) (A' : Option Addr) (n' c' : Nat) (D' : Option Addr) (m' e' : Nat) (x' : Bool) (t' : TN) (k' : Nat) (h' : TK w b' A' n' c' D' m' e' x' t' k') (h0 : 0 < k) (hk : k ≤ 1000000) (h0' : 0 < k') (hk' : k' ≤ 1000000) : Calls Tryz.prog 18 #[.agg #[.bool b, .slice A n c, .slice D m e, .bool x], .agg #[.bool b', .slice A' n' c', .slice D' m' e', .bool x']] w (RetT w (tadd t t') (2 * k + 2 * k' + 3)) := by
  cases x <;> cases x'
  · by_cases hz : ((1 : Int) : Rat) - t.t * t'.t = 0
    · exact u_Add_ff0 w b A n c D m e t k h b' A' n' c' D' m' e' t' k' h' h0 hk h0' hk' hz
    · exact u_Add_ff1 w b A n c D m e t k h b' A' n' c' D' m' e' t' k' h' h0 hk h0' hk' hz
  · exact u_Add_ft w b A n c D m e t k h b' A' n' c' D' m' e' t' k' h' h0 hk h0' hk'
  · exact u_Add_tf w b A n c D m e t k h b' A' n' c' D' m' e' t' k' h' h0 hk h0' hk'
  · exact u_Add_tt w b A n c D m e t k h b' A' n' c' D' m' e' t' k' h' h0 hk h0' hk'
end Go.Proofs.YtmneloabphplmaaGreat

/- Walks: the reference: arcs, turns between, points turned. -/
namespace Go.Proofs.YtmneloabphplmaaGreat
open Go Go.RowKit Bn
attribute [local go_sem ↓] Go.wp_at_zero Go.wp_at_succ
set_option maxRecDepth 100000 in
set_option maxHeartbeats 4000000 in
/-- linkworkref12.Inside -/
theorem u_Inside_eq (w : World) (b : Bool) (A : Option Addr) (n c : Nat) (D : Option Addr) (m e : Nat) (x : Bool) (t : TN) (k : Nat) (h : TK w b A n c D m e x t k) (b' : Bool) (A' : Option Addr) (n' c' : Nat) (D' : Option Addr) (m' e' : Nat) (x' : Bool) (t' : TN) (k' : Nat) (h' : TK w b' A' n' c' D' m' e' x' t' k') (b'' : Bool) (A'' : Option Addr) (n'' c'' : Nat) (D'' : Option Addr) (m'' e'' : Nat) (x'' : Bool) (t'' : TN) (k'' : Nat) (h'' : TK w b'' A'' n'' c'' D'' m'' e'' x'' t'' k'') (h0 : 0 < k) (hk : k ≤ 200000) (h0' : 0 < k') (hk' : k' ≤ 200000) (h0'' : 0 < k'') (hk'' : k'' ≤ 200000) (hs : tcmp t t' = 0) :
    Calls Tryz.prog 10 #[.agg #[.bool b, .slice A n c, .slice D m e, .bool x], .agg #[.bool b', .slice A' n' c', .slice D' m' e', .bool x'], .agg #[.bool b'', .slice A'' n'' c'', .slice D'' m'' e'', .bool x'']] w (RetV w (.bool true)) := by
  have HS := Lib.hid hs
  clear hs
  go_enter Tryz.func10, Tryz.ntmps10
  go_wp2_with fail
  (with_reducible refine (u_Cmp_e _ b A n c D m e x (t) (k) ?_ b' A' n' c' D' m' e' x' (t') (k') ?_ (0) ?_ ?_ ?_ ?_ ?_).mono ?_); (exact (h.belw ((((Below.refl _ _).alloc (Nat.le_refl _) _).alloc (by simp) _).alloc (by simp <;> omega) _))); (exact (h'.belw ((((Below.refl _ _).alloc (Nat.le_refl _) _).alloc (by simp) _).alloc (by simp <;> omega) _))); (exact HS.out); (first | omega | decide | assumption); (first | omega | decide | assumption); (first | omega | decide | assumption); (first | omega | decide | assumption); rintro e w1 ⟨rfl, hb1⟩
  have q1 : Below w.heap.size w w1 := ((((Below.refl _ _).alloc (Nat.le_refl _) _).alloc (by simp) _).alloc (by simp <;> omega) _).trans (hb1.mono (by simp <;> omega))
  replace h := h.belw q1
  replace h' := h'.belw q1
  replace h'' := h''.belw q1
  have x1_0 : Blk w1 (w.heap.size) 26 #[.bool b, .slice A n c, .slice D m e, .bool x] := (((blkAt _ _ _ (by simp)).alloc _).alloc _).below hb1 (by simp <;> omega)
  have x1_1 : Blk w1 (w.heap.size + 1) 26 #[.bool b', .slice A' n' c', .slice D' m' e', .bool x'] := ((blkAt _ _ _ (by simp)).alloc _).below hb1 (by simp <;> omega)
  have x1_2 : Blk w1 (w.heap.size + 1 + 1) 26 #[.bool b'', .slice A'' n'' c'', .slice D'' m'' e'', .bool x''] := (blkAt _ _ _ (by simp)).below hb1 (by simp)
  have bw1 : Below w.heap.size w w1 := (brefl w).trans (q1.mono (brefl w).size)
  have lw1 : w.heap.size + 3 ≤ w1.heap.size := by have := hb1.size; simp at this; omega
  clear hb1 q1
  go_wp2_with fail
  go_ret
  exact retB rfl bw1
set_option maxRecDepth 100000 in
set_option maxHeartbeats 4000000 in
/-- linkworkref12.Inside -/
theorem u_Inside_ne (w : World) (b : Bool) (A : Option Addr) (n c : Nat) (D : Option Addr) (m e : Nat) (x : Bool) (t : TN) (k : Nat) (h : TK w b A n c D m e x t k) (b' : Bool) (A' : Option Addr) (n' c' : Nat) (D' : Option Addr) (m' e' : Nat) (x' : Bool) (t' : TN) (k' : Nat) (h' : TK w b' A' n' c' D' m' e' x' t' k') (b'' : Bool) (A'' : Option Addr) (n'' c'' : Nat) (D'' : Option Addr) (m'' e'' : Nat) (x'' : Bool) (t'' : TN) (k'' : Nat) (h'' : TK w b'' A'' n'' c'' D'' m'' e'' x'' t'' k'') (h0 : 0 < k) (hk : k ≤ 200000) (h0' : 0 < k') (hk' : k' ≤ 200000) (h0'' : 0 < k'') (hk'' : k'' ≤ 200000) (s s1 : Int) (hs : tcmp t t' = s) (hn : s ≠ 0) (hs1 : tcmp (tadd t'' (tneg t)) (tadd t' (tneg t)) = s1) :
    Calls Tryz.prog 10 #[.agg #[.bool b, .slice A n c, .slice D m e, .bool x], .agg #[.bool b', .slice A' n' c', .slice D' m' e', .bool x'], .agg #[.bool b'', .slice A'' n'' c'', .slice D'' m'' e'', .bool x'']] w (RetV w (.bool (decide (s1 ≤ 0)))) := by
  have HS := Lib.hid hs
  have HS1 := Lib.hid hs1
  have e0 : ((s : Int) == 0) = false := by simp; exact hn
  clear hs hs1 hn
  go_enter Tryz.func10, Tryz.ntmps10
  go_wp2_with fail
  (with_reducible refine (u_Cmp_e _ b A n c D m e x (t) (k) ?_ b' A' n' c' D' m' e' x' (t') (k') ?_ (s) ?_ ?_ ?_ ?_ ?_).mono ?_); (exact (h.belw ((((Below.refl _ _).alloc (Nat.le_refl _) _).alloc (by simp) _).alloc (by simp <;> omega) _))); (exact (h'.belw ((((Below.refl _ _).alloc (Nat.le_refl _) _).alloc (by simp) _).alloc (by simp <;> omega) _))); (exact HS.out); (first | omega | decide | assumption); (first | omega | decide | assumption); (first | omega | decide | assumption); (first | omega | decide | assumption); rintro e w1 ⟨rfl, hb1⟩
  have q1 : Below w.heap.size w w1 := ((((Below.refl _ _).alloc (Nat.le_refl _) _).alloc (by simp) _).alloc (by simp <;> omega) _).trans (hb1.mono (by simp <;> omega))
  replace h := h.belw q1
  replace h' := h'.belw q1
  replace h'' := h''.belw q1
  have x1_0 : Blk w1 (w.heap.size) 26 #[.bool b, .slice A n c, .slice D m e, .bool x] := (((blkAt _ _ _ (by simp)).alloc _).alloc _).below hb1 (by simp <;> omega)
  have x1_1 : Blk w1 (w.heap.size + 1) 26 #[.bool b', .slice A' n' c', .slice D' m' e', .bool x'] := ((blkAt _ _ _ (by simp)).alloc _).below hb1 (by simp <;> omega)
  have x1_2 : Blk w1 (w.heap.size + 1 + 1) 26 #[.bool b'', .slice A'' n'' c'', .slice D'' m'' e'', .bool x''] := (blkAt _ _ _ (by simp)).below hb1 (by simp)
  have bw1 : Below w.heap.size w w1 := (brefl w).trans (q1.mono (brefl w).size)
  have lw1 : w.heap.size + 3 ≤ w1.heap.size := by have := hb1.size; simp at this; omega
  clear hb1 q1
  obtain ⟨cx1_0_0, cx1_0_1, cx1_0_2, cx1_0_3⟩ := x1_0.c4
  obtain ⟨lx1_0_0, lx1_0_1, lx1_0_2, lx1_0_3⟩ := lts0 x1_0.lt
  obtain ⟨cx1_1_0, cx1_1_1, cx1_1_2, cx1_1_3⟩ := x1_1.c4
  obtain ⟨lx1_1_0, lx1_1_1, lx1_1_2, lx1_1_3⟩ := lts1 x1_1.lt
  obtain ⟨cx1_2_0, cx1_2_1, cx1_2_2, cx1_2_3⟩ := x1_2.c4
  obtain ⟨lx1_2_0, lx1_2_1, lx1_2_2, lx1_2_3⟩ := lts2 x1_2.lt
  go_wp2_with fail
  go_region_held3 (fun w' => Sees w1.heap.size w1 w') (first | with_reducible exact Sees.of (Nat.le_refl _) (by assumption) | with_reducible exact Sees.of (Nat.le_refl _) (brefl _).drew | exact Sees.of (Nat.le_refl _) (below_drewN (brefl _) 1) | exact Sees.of (Nat.le_refl _) (below_drewN (by assumption) _))
    (first
      | (go_at_call 31; (with_reducible refine (u_Neg _ b A n c D m e x (t) (k) ?_ ?_ ?_).mono ?_); (exact h); (first | omega | decide | assumption); (first | omega | decide | assumption); rintro e w2 ⟨b2, A2, n2, c2, A'2, n'2, c'2, x2, rfl, h2, hb2⟩; replace hb2 := bnext (below_drewN (brefl _) 1) hb2; have q2 : Below w1.heap.size w1 w2 := bnext (brefl w1) hb2; replace h := h.belw hb2; replace h' := h'.belw hb2; replace h'' := h''.belw hb2)
      | (go_at_call 18; (with_reducible refine (u_Add _ b'' A'' n'' c'' D'' m'' e'' x'' (t'') (k'') ?_ b2 A2 n2 c2 A'2 n'2 c'2 x2 (tneg ((t))) ((k)) ?_ ?_ ?_ ?_ ?_).mono ?_); (exact h''); (exact h2.tk); (first | omega | decide | assumption); (first | omega | decide | assumption); (first | omega | decide | assumption); (first | omega | decide | assumption); rintro e w3 ⟨b3, A3, n3, c3, A'3, n'3, c'3, x3, rfl, h3, hb3⟩; have q3 : Below w1.heap.size w1 w3 := bnext q2 hb3; replace h := h.belw hb3; replace h' := h'.belw hb3; replace h'' := h''.belw hb3; replace h2 := h2.belw hb3)
      | (go_at_call 31; (with_reducible refine (u_Neg _ b A n c D m e x (t) (k) ?_ ?_ ?_).mono ?_); (exact h); (first | omega | decide | assumption); (first | omega | decide | assumption); rintro e w4 ⟨b4, A4, n4, c4, A'4, n'4, c'4, x4, rfl, h4, hb4⟩; have q4 : Below w1.heap.size w1 w4 := bnext q3 hb4; replace h := h.belw hb4; replace h' := h'.belw hb4; replace h'' := h''.belw hb4; replace h2 := h2.belw hb4; replace h3 := h3.belw hb4)
      | (go_at_call 18; (with_reducible refine (u_Add _ b' A' n' c' D' m' e' x' (t') (k') ?_ b4 A4 n4 c4 A'4 n'4 c'4 x4 (tneg ((t))) ((k)) ?_ ?_ ?_ ?_ ?_).mono ?_); (exact h'); (exact h4.tk); (first | omega | decide | assumption); (first | omega | decide | assumption); (first | omega | decide | assumption); (first | omega | decide | assumption); rintro e w5 ⟨b5, A5, n5, c5, A'5, n'5, c'5, x5, rfl, h5, hb5⟩; have q5 : Below w1.heap.size w1 w5 := bnext q4 hb5; replace h := h.belw hb5; replace h' := h'.belw hb5; replace h'' := h''.belw hb5; replace h2 := h2.belw hb5; replace h3 := h3.belw hb5; replace h4 := h4.belw hb5)
      | (go_at_call 19; (with_reducible refine (u_Cmp_e _ b3 A3 n3 c3 A'3 n'3 c'3 x3 (tadd ((t'')) ((tneg ((t))))) (2 * ((k'')) + 2 * (((k))) + 3) ?_ b5 A5 n5 c5 A'5 n'5 c'5 x5 (tadd ((t')) ((tneg ((t))))) (2 * ((k')) + 2 * (((k))) + 3) ?_ (s1) ?_ ?_ ?_ ?_ ?_).mono ?_); (exact h3.tk); (exact h5.tk); (exact HS1.out); (first | omega | decide | assumption); (first | omega | decide | assumption); (first | omega | decide | assumption); (first | omega | decide | assumption); rintro e w6 ⟨rfl, hb6⟩; have q6 : Below w1.heap.size w1 w6 := bnext q5 hb6; replace h := h.belw hb6; replace h' := h'.belw hb6; replace h'' := h''.belw hb6; replace h2 := h2.belw hb6; replace h3 := h3.belw hb6; replace h4 := h4.belw hb6; replace h5 := h5.belw hb6))
  have bw6 : Below w.heap.size w w6 := bw1.trans (q6.mono bw1.size)
  clear cx1_0_0 cx1_0_1 cx1_0_2 cx1_0_3 lx1_0_0 lx1_0_1 lx1_0_2 lx1_0_3 cx1_1_0 cx1_1_1 cx1_1_2 cx1_1_3 lx1_1_0 lx1_1_1 lx1_1_2 lx1_1_3 cx1_2_0 cx1_2_1 cx1_2_2 cx1_2_3 lx1_2_0 lx1_2_1 lx1_2_2 lx1_2_3
  replace x1_0 := x1_0.below q6 x1_0.lt
  replace x1_1 := x1_1.below q6 x1_1.lt
  replace x1_2 := x1_2.below q6 x1_2.lt
  have lw6 : w1.heap.size ≤ w6.heap.size := q6.size
  go_wp2_with fail
  go_ret
  exact retB rfl bw6
theorem u_Inside (w : World) (b : Bool) (A : Option Addr) (n c : Nat) (D : Option Addr) (m e : Nat) (x : Bool) (t : TN) (k : Nat) (h : TK w b A n c D m e x t k) (b' : Bool) (A' : Option Addr) (n' c' : Nat) (D' : Option Addr) (m' e' : Nat) (x' : Bool) (t' : TN) (k' : Nat) (h' : TK w b' A' n' c' D' m' e' x' t' k') (b'' : Bool) (A'' : Option Addr) (n'' c'' : Nat) (D'' : Option Addr) (m'' e'' : Nat) (x'' : Bool) (t'' : TN) (k'' : Nat) (h'' : TK w b'' A'' n'' c'' D'' m'' e'' x'' t'' k'') (h0 : 0 < k) (hk : k ≤ 200000) (h0' : 0 < k') (hk' : k' ≤ 200000) (h0'' : 0 < k'') (hk'' : k'' ≤ 200000) : Calls Tryz.prog 10 #[.agg #[.bool b, .slice A n c, .slice D m e, .bool x], .agg #[.bool b', .slice A' n' c', .slice D' m' e', .bool x'], .agg #[.bool b'', .slice A'' n'' c'', .slice D'' m'' e'', .bool x'']] w (RetV w (.bool (tinside t t' t''))) := by
  unfold tinside
  by_cases hs : tcmp t t' = 0
  · rw [if_pos hs]; exact u_Inside_eq w b A n c D m e x t k h b' A' n' c' D' m' e' x' t' k' h' b'' A'' n'' c'' D'' m'' e'' x'' t'' k'' h'' h0 hk h0' hk' h0'' hk'' hs
  · rw [if_neg hs]; exact u_Inside_ne w b A n c D m e x t k h b' A' n' c' D' m' e' x' t' k' h' b'' A'' n'' c'' D'' m'' e'' x'' t'' k'' h'' h0 hk h0' hk' h0'' hk'' _ _ rfl hs rfl
end Go.Proofs.YtmneloabphplmaaGreat

/- Walks: comparison of turns; the turn of a cosine and a sine. -/
namespace Go.Proofs.YtmneloabphplmaaGreat
open Go Go.RowKit Bn
attribute [local go_sem ↓] Go.wp_at_zero Go.wp_at_succ
theorem t_part_e (w : World) (b : Bool) (A : Option Addr) (n c : Nat) (D : Option Addr) (m e : Nat) (x : Bool) (t : TN) (k : Nat) (h : TK w b A n c D m e x t k) (s : Int) (hs : tpart t = s) (h0 : 0 < k) (hk : k ≤ 1000000) : Calls Tryz.prog 53 #[.agg #[.bool b, .slice A n c, .slice D m e, .bool x]] w (RetV w (.int .i64 s)) := by subst hs; exact t_part w b A n c D m e x t k h h0 hk
theorem cmpI_rcmp (a b : Rat) : cmpI (a.num * b.den) (b.num * a.den) = rcmp a b := by
  unfold cmpI rcmp
  have h := cmp_q a b
  by_cases h1 : a < b
  · rw [if_pos h1, if_pos (h.1.2 h1)]
  · rw [if_neg h1, if_neg (fun x => h1 (h.1.1 x))]
    by_cases h2 : a = b
    · rw [if_pos h2, if_pos (h.2.2 h2)]
    · rw [if_neg h2, if_neg (fun x => h2 (h.2.1 x))]
set_option maxRecDepth 100000 in
set_option maxHeartbeats 2000000 in
/-- turn.compare -/
theorem t_compare_lt (w : World) (b : Bool) (A : Option Addr) (n c : Nat) (D : Option Addr) (m e : Nat) (x : Bool) (t : TN) (k : Nat) (h : TK w b A n c D m e x t k) (b' : Bool) (A' : Option Addr) (n' c' : Nat) (D' : Option Addr) (m' e' : Nat) (x' : Bool) (t' : TN) (k' : Nat) (h' : TK w b' A' n' c' D' m' e' x' t' k') (h0 : 0 < k) (hk : k ≤ 1000000) (h0' : 0 < k') (hk' : k' ≤ 1000000) (hp : tpart t < tpart t') :
    Calls Tryz.prog 26 #[.agg #[.bool b, .slice A n c, .slice D m e, .bool x], .agg #[.bool b', .slice A' n' c', .slice D' m' e', .bool x']] w (RetV w (.int .i64 (-1))) := by
  obtain ⟨s, hs⟩ : ∃ s, tpart t = s := ⟨_, rfl⟩
  obtain ⟨s', hs'⟩ : ∃ s, tpart t' = s := ⟨_, rfl⟩
  rw [hs, hs'] at hp
  have e1 : decide (s < s') = true := by simp; omega
  have HS := Lib.hid hs
  have HS' := Lib.hid hs'
  clear hs hs' hp
  go_enter Tryz.func26, Tryz.ntmps26
  go_wp2_with fail
  have p1 : Kp w ((w.alloc (.cells #[.bool b, .slice A n c, .slice D m e, .bool x] 26)).alloc (.cells #[.bool b', .slice A' n' c', .slice D' m' e', .bool x'] 26)) := (((Kp.refl w).alloc (.cells #[.bool b, .slice A n c, .slice D m e, .bool x] 26)).alloc (.cells #[.bool b', .slice A' n' c', .slice D' m' e', .bool x'] 26))
  have bw1 : Below w.heap.size w ((w.alloc (.cells #[.bool b, .slice A n c, .slice D m e, .bool x] 26)).alloc (.cells #[.bool b', .slice A' n' c', .slice D' m' e', .bool x'] 26)) := (((brefl w).alloc (by first | omega | (simp <;> omega)) (.cells #[.bool b, .slice A n c, .slice D m e, .bool x] 26)).alloc (by first | omega | (simp <;> omega)) (.cells #[.bool b', .slice A' n' c', .slice D' m' e', .bool x'] 26))
  have x1_0 : Blk ((w.alloc (.cells #[.bool b, .slice A n c, .slice D m e, .bool x] 26)).alloc (.cells #[.bool b', .slice A' n' c', .slice D' m' e', .bool x'] 26)) (w.heap.size) 26 #[.bool b, .slice A n c, .slice D m e, .bool x] := ((blkAt _ _ _ (by simp)).alloc (.cells #[.bool b', .slice A' n' c', .slice D' m' e', .bool x'] 26))
  have x1_1 : Blk ((w.alloc (.cells #[.bool b, .slice A n c, .slice D m e, .bool x] 26)).alloc (.cells #[.bool b', .slice A' n' c', .slice D' m' e', .bool x'] 26)) (w.heap.size + 1) 26 #[.bool b', .slice A' n' c', .slice D' m' e', .bool x'] := (blkAt _ _ _ (by simp))
  have lw1 : w.heap.size + 2 ≤ ((w.alloc (.cells #[.bool b, .slice A n c, .slice D m e, .bool x] 26)).alloc (.cells #[.bool b', .slice A' n' c', .slice D' m' e', .bool x'] 26)).heap.size := by simp
  generalize hE1 : ((w.alloc (.cells #[.bool b, .slice A n c, .slice D m e, .bool x] 26)).alloc (.cells #[.bool b', .slice A' n' c', .slice D' m' e', .bool x'] 26)) = w1 at p1 bw1 lw1 x1_0 x1_1 ⊢
  clear hE1
  replace h := h.keep p1
  replace h' := h'.keep p1
  obtain ⟨cx1_0_0, cx1_0_1, cx1_0_2, cx1_0_3⟩ := x1_0.c4
  obtain ⟨lx1_0_0, lx1_0_1, lx1_0_2, lx1_0_3⟩ := lts0 x1_0.lt
  obtain ⟨cx1_1_0, cx1_1_1, cx1_1_2, cx1_1_3⟩ := x1_1.c4
  obtain ⟨lx1_1_0, lx1_1_1, lx1_1_2, lx1_1_3⟩ := lts1 x1_1.lt
  go_region_held3 (fun w' => Sees w1.heap.size w1 w') (first | with_reducible exact Sees.of (Nat.le_refl _) (by assumption) | with_reducible exact Sees.of (Nat.le_refl _) (brefl _).drew | exact Sees.of (Nat.le_refl _) (below_drewN (brefl _) 1) | exact Sees.of (Nat.le_refl _) (below_drewN (by assumption) _))
    (first
      | (go_at_call 53; (with_reducible refine (t_part_e _ b A n c D m e x (t) (k) ?_ s ?_ ?_ ?_).mono ?_); (exact h); (exact HS.out); (first | omega | decide | assumption); (first | omega | decide | assumption); rintro e w2 ⟨rfl, hb2⟩; replace hb2 := bnext (below_drewN (brefl _) 1) hb2; have q2 : Below w1.heap.size w1 w2 := bnext (brefl w1) hb2; replace h := h.belw hb2; replace h' := h'.belw hb2)
      | (go_at_call 53; (with_reducible refine (t_part_e _ b' A' n' c' D' m' e' x' (t') (k') ?_ s' ?_ ?_ ?_).mono ?_); (exact h'); (exact HS'.out); (first | omega | decide | assumption); (first | omega | decide | assumption); rintro e w3 ⟨rfl, hb3⟩; have q3 : Below w1.heap.size w1 w3 := bnext q2 hb3; replace h := h.belw hb3; replace h' := h'.belw hb3))
  have bw3 : Below w.heap.size w w3 := bw1.trans (q3.mono bw1.size)
  clear cx1_0_0 cx1_0_1 cx1_0_2 cx1_0_3 lx1_0_0 lx1_0_1 lx1_0_2 lx1_0_3 cx1_1_0 cx1_1_1 cx1_1_2 cx1_1_3 lx1_1_0 lx1_1_1 lx1_1_2 lx1_1_3
  replace x1_0 := x1_0.below q3 x1_0.lt
  replace x1_1 := x1_1.below q3 x1_1.lt
  have lw3 : w1.heap.size ≤ w3.heap.size := q3.size
  go_wp2_with fail
  go_ret
  exact retI rfl bw3
set_option maxRecDepth 100000 in
set_option maxHeartbeats 2000000 in
/-- turn.compare -/
theorem t_compare_gt (w : World) (b : Bool) (A : Option Addr) (n c : Nat) (D : Option Addr) (m e : Nat) (x : Bool) (t : TN) (k : Nat) (h : TK w b A n c D m e x t k) (b' : Bool) (A' : Option Addr) (n' c' : Nat) (D' : Option Addr) (m' e' : Nat) (x' : Bool) (t' : TN) (k' : Nat) (h' : TK w b' A' n' c' D' m' e' x' t' k') (h0 : 0 < k) (hk : k ≤ 1000000) (h0' : 0 < k') (hk' : k' ≤ 1000000) (hp : tpart t' < tpart t) :
    Calls Tryz.prog 26 #[.agg #[.bool b, .slice A n c, .slice D m e, .bool x], .agg #[.bool b', .slice A' n' c', .slice D' m' e', .bool x']] w (RetV w (.int .i64 1)) := by
  obtain ⟨s, hs⟩ : ∃ s, tpart t = s := ⟨_, rfl⟩
  obtain ⟨s', hs'⟩ : ∃ s, tpart t' = s := ⟨_, rfl⟩
  rw [hs, hs'] at hp
  have e1 : decide (s < s') = false := by simp; omega
  have e2 : decide (s' < s) = true := by simp; omega
  have HS := Lib.hid hs
  have HS' := Lib.hid hs'
  clear hs hs' hp
  go_enter Tryz.func26, Tryz.ntmps26
  go_wp2_with fail
  have p1 : Kp w ((w.alloc (.cells #[.bool b, .slice A n c, .slice D m e, .bool x] 26)).alloc (.cells #[.bool b', .slice A' n' c', .slice D' m' e', .bool x'] 26)) := (((Kp.refl w).alloc (.cells #[.bool b, .slice A n c, .slice D m e, .bool x] 26)).alloc (.cells #[.bool b', .slice A' n' c', .slice D' m' e', .bool x'] 26))
  have bw1 : Below w.heap.size w ((w.alloc (.cells #[.bool b, .slice A n c, .slice D m e, .bool x] 26)).alloc (.cells #[.bool b', .slice A' n' c', .slice D' m' e', .bool x'] 26)) := (((brefl w).alloc (by first | omega | (simp <;> omega)) (.cells #[.bool b, .slice A n c, .slice D m e, .bool x] 26)).alloc (by first | omega | (simp <;> omega)) (.cells #[.bool b', .slice A' n' c', .slice D' m' e', .bool x'] 26))
  have x1_0 : Blk ((w.alloc (.cells #[.bool b, .slice A n c, .slice D m e, .bool x] 26)).alloc (.cells #[.bool b', .slice A' n' c', .slice D' m' e', .bool x'] 26)) (w.heap.size) 26 #[.bool b, .slice A n c, .slice D m e, .bool x] := ((blkAt _ _ _ (by simp)).alloc (.cells #[.bool b', .slice A' n' c', .slice D' m' e', .bool x'] 26))
  have x1_1 : Blk ((w.alloc (.cells #[.bool b, .slice A n c, .slice D m e, .bool x] 26)).alloc (.cells #[.bool b', .slice A' n' c', .slice D' m' e', .bool x'] 26)) (w.heap.size + 1) 26 #[.bool b', .slice A' n' c', .slice D' m' e', .bool x'] := (blkAt _ _ _ (by simp))
  have lw1 : w.heap.size + 2 ≤ ((w.alloc (.cells #[.bool b, .slice A n c, .slice D m e, .bool x] 26)).alloc (.cells #[.bool b', .slice A' n' c', .slice D' m' e', .bool x'] 26)).heap.size := by simp
  generalize hE1 : ((w.alloc (.cells #[.bool b, .slice A n c, .slice D m e, .bool x] 26)).alloc (.cells #[.bool b', .slice A' n' c', .slice D' m' e', .bool x'] 26)) = w1 at p1 bw1 lw1 x1_0 x1_1 ⊢
  clear hE1
  replace h := h.keep p1
  replace h' := h'.keep p1
  obtain ⟨cx1_0_0, cx1_0_1, cx1_0_2, cx1_0_3⟩ := x1_0.c4
  obtain ⟨lx1_0_0, lx1_0_1, lx1_0_2, lx1_0_3⟩ := lts0 x1_0.lt
  obtain ⟨cx1_1_0, cx1_1_1, cx1_1_2, cx1_1_3⟩ := x1_1.c4
  obtain ⟨lx1_1_0, lx1_1_1, lx1_1_2, lx1_1_3⟩ := lts1 x1_1.lt
  go_region_held3 (fun w' => Sees w1.heap.size w1 w') (first | with_reducible exact Sees.of (Nat.le_refl _) (by assumption) | with_reducible exact Sees.of (Nat.le_refl _) (brefl _).drew | exact Sees.of (Nat.le_refl _) (below_drewN (brefl _) 1) | exact Sees.of (Nat.le_refl _) (below_drewN (by assumption) _))
    (first
      | (go_at_call 53; (with_reducible refine (t_part_e _ b A n c D m e x (t) (k) ?_ s ?_ ?_ ?_).mono ?_); (exact h); (exact HS.out); (first | omega | decide | assumption); (first | omega | decide | assumption); rintro e w2 ⟨rfl, hb2⟩; replace hb2 := bnext (below_drewN (brefl _) 1) hb2; have q2 : Below w1.heap.size w1 w2 := bnext (brefl w1) hb2; replace h := h.belw hb2; replace h' := h'.belw hb2)
      | (go_at_call 53; (with_reducible refine (t_part_e _ b' A' n' c' D' m' e' x' (t') (k') ?_ s' ?_ ?_ ?_).mono ?_); (exact h'); (exact HS'.out); (first | omega | decide | assumption); (first | omega | decide | assumption); rintro e w3 ⟨rfl, hb3⟩; have q3 : Below w1.heap.size w1 w3 := bnext q2 hb3; replace h := h.belw hb3; replace h' := h'.belw hb3))
  have bw3 : Below w.heap.size w w3 := bw1.trans (q3.mono bw1.size)
  clear cx1_0_0 cx1_0_1 cx1_0_2 cx1_0_3 lx1_0_0 lx1_0_1 lx1_0_2 lx1_0_3 cx1_1_0 cx1_1_1 cx1_1_2 cx1_1_3 lx1_1_0 lx1_1_1 lx1_1_2 lx1_1_3
  replace x1_0 := x1_0.below q3 x1_0.lt
  replace x1_1 := x1_1.below q3 x1_1.lt
  have lw3 : w1.heap.size ≤ w3.heap.size := q3.size
  go_wp2_with fail
  go_ret
  exact retI rfl bw3
set_option maxRecDepth 100000 in
set_option maxHeartbeats 2000000 in
/-- turn.compare -/
theorem t_compare_eq (w : World) (b : Bool) (A : Option Addr) (n c : Nat) (D : Option Addr) (m e : Nat) (x : Bool) (t : TN) (k : Nat) (h : TK w b A n c D m e x t k) (b' : Bool) (A' : Option Addr) (n' c' : Nat) (D' : Option Addr) (m' e' : Nat) (x' : Bool) (t' : TN) (k' : Nat) (h' : TK w b' A' n' c' D' m' e' x' t' k') (h0 : 0 < k) (hk : k ≤ 1000000) (h0' : 0 < k') (hk' : k' ≤ 1000000) (hp : tpart t = tpart t') :
    Calls Tryz.prog 26 #[.agg #[.bool b, .slice A n c, .slice D m e, .bool x], .agg #[.bool b', .slice A' n' c', .slice D' m' e', .bool x']] w (RetV w (.int .i64 (tcmp t t'))) := by
  obtain ⟨s, hs⟩ : ∃ s, tpart t = s := ⟨_, rfl⟩
  obtain ⟨s', hs'⟩ : ∃ s, tpart t' = s := ⟨_, rfl⟩
  have HR := Lib.hid (show cmpI (t.t.num * t'.t.den) (t'.t.num * t.t.den) = tcmp t t' by rw [cmpI_rcmp]; unfold tcmp; rw [if_neg (by omega), if_neg (by omega)])
  rw [hs, hs'] at hp
  have e1 : decide (s < s') = false := by simp; omega
  have e2 : decide (s' < s) = false := by simp; omega
  have HS := Lib.hid hs
  have HS' := Lib.hid hs'
  clear hs hs' hp
  go_enter Tryz.func26, Tryz.ntmps26
  go_wp2_with fail
  have p1 : Kp w ((w.alloc (.cells #[.bool b, .slice A n c, .slice D m e, .bool x] 26)).alloc (.cells #[.bool b', .slice A' n' c', .slice D' m' e', .bool x'] 26)) := (((Kp.refl w).alloc (.cells #[.bool b, .slice A n c, .slice D m e, .bool x] 26)).alloc (.cells #[.bool b', .slice A' n' c', .slice D' m' e', .bool x'] 26))
  have bw1 : Below w.heap.size w ((w.alloc (.cells #[.bool b, .slice A n c, .slice D m e, .bool x] 26)).alloc (.cells #[.bool b', .slice A' n' c', .slice D' m' e', .bool x'] 26)) := (((brefl w).alloc (by first | omega | (simp <;> omega)) (.cells #[.bool b, .slice A n c, .slice D m e, .bool x] 26)).alloc (by first | omega | (simp <;> omega)) (.cells #[.bool b', .slice A' n' c', .slice D' m' e', .bool x'] 26))
  have x1_0 : Blk ((w.alloc (.cells #[.bool b, .slice A n c, .slice D m e, .bool x] 26)).alloc (.cells #[.bool b', .slice A' n' c', .slice D' m' e', .bool x'] 26)) (w.heap.size) 26 #[.bool b, .slice A n c, .slice D m e, .bool x] := ((blkAt _ _ _ (by simp)).alloc (.cells #[.bool b', .slice A' n' c', .slice D' m' e', .bool x'] 26))
  have x1_1 : Blk ((w.alloc (.cells #[.bool b, .slice A n c, .slice D m e, .bool x] 26)).alloc (.cells #[.bool b', .slice A' n' c', .slice D' m' e', .bool x'] 26)) (w.heap.size + 1) 26 #[.bool b', .slice A' n' c', .slice D' m' e', .bool x'] := (blkAt _ _ _ (by simp))
  have lw1 : w.heap.size + 2 ≤ ((w.alloc (.cells #[.bool b, .slice A n c, .slice D m e, .bool x] 26)).alloc (.cells #[.bool b', .slice A' n' c', .slice D' m' e', .bool x'] 26)).heap.size := by simp
  generalize hE1 : ((w.alloc (.cells #[.bool b, .slice A n c, .slice D m e, .bool x] 26)).alloc (.cells #[.bool b', .slice A' n' c', .slice D' m' e', .bool x'] 26)) = w1 at p1 bw1 lw1 x1_0 x1_1 ⊢
  clear hE1
  replace h := h.keep p1
  replace h' := h'.keep p1
  obtain ⟨cx1_0_0, cx1_0_1, cx1_0_2, cx1_0_3⟩ := x1_0.c4
  obtain ⟨lx1_0_0, lx1_0_1, lx1_0_2, lx1_0_3⟩ := lts0 x1_0.lt
  obtain ⟨cx1_1_0, cx1_1_1, cx1_1_2, cx1_1_3⟩ := x1_1.c4
  obtain ⟨lx1_1_0, lx1_1_1, lx1_1_2, lx1_1_3⟩ := lts1 x1_1.lt
  go_region_held3 (fun w' => Sees w1.heap.size w1 w') (first | with_reducible exact Sees.of (Nat.le_refl _) (by assumption) | with_reducible exact Sees.of (Nat.le_refl _) (brefl _).drew | exact Sees.of (Nat.le_refl _) (below_drewN (brefl _) 1) | exact Sees.of (Nat.le_refl _) (below_drewN (by assumption) _))
    (first
      | (go_at_call 53; (with_reducible refine (t_part_e _ b A n c D m e x (t) (k) ?_ s ?_ ?_ ?_).mono ?_); (exact h); (exact HS.out); (first | omega | decide | assumption); (first | omega | decide | assumption); rintro e w2 ⟨rfl, hb2⟩; replace hb2 := bnext (below_drewN (brefl _) 1) hb2; have q2 : Below w1.heap.size w1 w2 := bnext (brefl w1) hb2; replace h := h.belw hb2; replace h' := h'.belw hb2)
      | (go_at_call 53; (with_reducible refine (t_part_e _ b' A' n' c' D' m' e' x' (t') (k') ?_ s' ?_ ?_ ?_).mono ?_); (exact h'); (exact HS'.out); (first | omega | decide | assumption); (first | omega | decide | assumption); rintro e w3 ⟨rfl, hb3⟩; have q3 : Below w1.heap.size w1 w3 := bnext q2 hb3; replace h := h.belw hb3; replace h' := h'.belw hb3))
  have bw3 : Below w.heap.size w w3 := bw1.trans (q3.mono bw1.size)
  clear cx1_0_0 cx1_0_1 cx1_0_2 cx1_0_3 lx1_0_0 lx1_0_1 lx1_0_2 lx1_0_3 cx1_1_0 cx1_1_1 cx1_1_2 cx1_1_3 lx1_1_0 lx1_1_1 lx1_1_2 lx1_1_3
  replace x1_0 := x1_0.below q3 x1_0.lt
  replace x1_1 := x1_1.below q3 x1_1.lt
  have lw3 : w1.heap.size ≤ w3.heap.size := q3.size
  obtain ⟨cx1_0_0, cx1_0_1, cx1_0_2, cx1_0_3⟩ := x1_0.c4
  obtain ⟨lx1_0_0, lx1_0_1, lx1_0_2, lx1_0_3⟩ := lts0 x1_0.lt
  obtain ⟨cx1_1_0, cx1_1_1, cx1_1_2, cx1_1_3⟩ := x1_1.c4
  obtain ⟨lx1_1_0, lx1_1_1, lx1_1_2, lx1_1_3⟩ := lts1 x1_1.lt
  go_wp2_with fail
  (with_reducible refine (f_cmp _ b A n c D m e ((t).t) (k) ?_ b' A' n' c' D' m' e' ((t').t) (k') ?_ ?_ ?_ ?_ ?_).mono ?_); (exact h.qz); (exact h'.qz); (first | omega | decide | assumption); (first | omega | decide | assumption); (first | omega | decide | assumption); (first | omega | decide | assumption); rintro e w4 ⟨rfl, hb4⟩
  clear cx1_0_0 cx1_0_1 cx1_0_2 cx1_0_3 lx1_0_0 lx1_0_1 lx1_0_2 lx1_0_3 cx1_1_0 cx1_1_1 cx1_1_2 cx1_1_3 lx1_1_0 lx1_1_1 lx1_1_2 lx1_1_3
  have q4 : Below w3.heap.size w3 w4 := hb4
  replace h := h.belw q4
  replace h' := h'.belw q4
  replace x1_0 := x1_0.below q4 x1_0.lt
  replace x1_1 := x1_1.below q4 x1_1.lt
  have bw4 : Below w.heap.size w w4 := bw3.trans (q4.mono bw3.size)
  have lw4 : w3.heap.size ≤ w4.heap.size := q4.size
  clear hb4 q4 bw3
  go_wp2_with fail
  go_ret
  exact retI HR.out bw4
theorem t_compare (w : World) (b : Bool) (A : Option Addr) (n c : Nat) (D : Option Addr) (m e : Nat) (x : Bool) (t : TN) (k : Nat) (h : TK w b A n c D m e x t k) (b' : Bool) (A' : Option Addr) (n' c' : Nat) (D' : Option Addr) (m' e' : Nat) (x' : Bool) (t' : TN) (k' : Nat) (h' : TK w b' A' n' c' D' m' e' x' t' k') (h0 : 0 < k) (hk : k ≤ 1000000) (h0' : 0 < k') (hk' : k' ≤ 1000000) : Calls Tryz.prog 26 #[.agg #[.bool b, .slice A n c, .slice D m e, .bool x], .agg #[.bool b', .slice A' n' c', .slice D' m' e', .bool x']] w (RetV w (.int .i64 (tcmp t t'))) := by
  rcases Int.lt_trichotomy (tpart t) (tpart t') with hp | hp | hp
  · have : tcmp t t' = -1 := by unfold tcmp; rw [if_pos hp]
    rw [this]; exact t_compare_lt w b A n c D m e x t k h b' A' n' c' D' m' e' x' t' k' h' h0 hk h0' hk' hp
  · exact t_compare_eq w b A n c D m e x t k h b' A' n' c' D' m' e' x' t' k' h' h0 hk h0' hk' hp
  · have : tcmp t t' = 1 := by unfold tcmp; rw [if_neg (by omega), if_pos hp]
    rw [this]; exact t_compare_gt w b A n c D m e x t k h b' A' n' c' D' m' e' x' t' k' h' h0 hk h0' hk' hp
end Go.Proofs.YtmneloabphplmaaGreat

/- Walks: comparison of turns that may be refused. -/
namespace Go.Proofs.YtmneloabphplmaaGreat
open Go Go.RowKit Bn
attribute [local go_sem ↓] Go.wp_at_zero Go.wp_at_succ
set_option maxRecDepth 100000 in
set_option maxHeartbeats 4000000 in
/-- turn.Cmp -/
theorem t_Cmp (w : World) (b : Bool) (A : Option Addr) (n c : Nat) (D : Option Addr) (m e : Nat) (x : Bool) (t : TN) (k : Nat) (h : TK w b A n c D m e x t k) (b' : Bool) (A' : Option Addr) (n' c' : Nat) (D' : Option Addr) (m' e' : Nat) (x' : Bool) (t' : TN) (k' : Nat) (h' : TK w b' A' n' c' D' m' e' x' t' k') (h0 : 0 < k) (hk : k ≤ 400000) (h0' : 0 < k') (hk' : k' ≤ 400000) :
    Calls Tryz.prog 12 #[.agg #[.bool b, .slice A n c, .slice D m e, .bool x], .agg #[.bool b', .slice A' n' c', .slice D' m' e', .bool x']] w (RetV w (.tuple #[.int .i64 (tcmp t t'), .nilIface])) := by
  go_enter Tryz.func12, Tryz.ntmps12
  go_wp2_with fail
  (with_reducible refine (t_checkAll _ (w.heap.size + 1 + 1) 2 ((k) + (k')) ?_ ?_ ?_ ?_).mono ?_); (exact ts2 (blkAt _ _ _ (by simp)) ((h.belw ((((Below.refl _ _).alloc (Nat.le_refl _) _).alloc (by simp) _).alloc (by simp <;> omega) _)).mono (by omega)) ((h'.belw ((((Below.refl _ _).alloc (Nat.le_refl _) _).alloc (by simp) _).alloc (by simp <;> omega) _)).mono (by omega))); (decide); (omega); (omega); rintro e w1 ⟨rfl, hb1⟩
  have q1 : Below w.heap.size w w1 := ((((Below.refl _ _).alloc (Nat.le_refl _) _).alloc (by simp) _).alloc (by simp <;> omega) _).trans (hb1.mono (by simp <;> omega))
  replace h := h.belw q1
  replace h' := h'.belw q1
  have x1_0 : Blk w1 (w.heap.size) 26 #[.bool b, .slice A n c, .slice D m e, .bool x] := (((blkAt _ _ _ (by simp)).alloc _).alloc _).below hb1 (by simp <;> omega)
  have x1_1 : Blk w1 (w.heap.size + 1) 26 #[.bool b', .slice A' n' c', .slice D' m' e', .bool x'] := ((blkAt _ _ _ (by simp)).alloc _).below hb1 (by simp <;> omega)
  have x1_2 : Blk w1 (w.heap.size + 1 + 1) 26 #[.bool b, .slice A n c, .slice D m e, .bool x, .bool b', .slice A' n' c', .slice D' m' e', .bool x'] := (blkAt _ _ _ (by simp)).below hb1 (by simp)
  have bw1 : Below w.heap.size w w1 := (brefl w).trans (q1.mono (brefl w).size)
  have lw1 : w.heap.size + 3 ≤ w1.heap.size := by have := hb1.size; simp at this; omega
  clear hb1 q1
  obtain ⟨cx1_0_0, cx1_0_1, cx1_0_2, cx1_0_3⟩ := x1_0.c4
  obtain ⟨lx1_0_0, lx1_0_1, lx1_0_2, lx1_0_3⟩ := lts0 x1_0.lt
  obtain ⟨cx1_1_0, cx1_1_1, cx1_1_2, cx1_1_3⟩ := x1_1.c4
  obtain ⟨lx1_1_0, lx1_1_1, lx1_1_2, lx1_1_3⟩ := lts1 x1_1.lt
  go_wp2_with fail
  (with_reducible refine (t_compare _ b A n c D m e x (t) (k) ?_ b' A' n' c' D' m' e' x' (t') (k') ?_ ?_ ?_ ?_ ?_).mono ?_); (exact h); (exact h'); (first | omega | decide | assumption); (first | omega | decide | assumption); (first | omega | decide | assumption); (first | omega | decide | assumption); rintro e w2 ⟨rfl, hb2⟩
  clear cx1_0_0 cx1_0_1 cx1_0_2 cx1_0_3 lx1_0_0 lx1_0_1 lx1_0_2 lx1_0_3 cx1_1_0 cx1_1_1 cx1_1_2 cx1_1_3 lx1_1_0 lx1_1_1 lx1_1_2 lx1_1_3
  have q2 : Below w1.heap.size w1 w2 := hb2
  replace h := h.belw q2
  replace h' := h'.belw q2
  replace x1_0 := x1_0.below q2 x1_0.lt
  replace x1_1 := x1_1.below q2 x1_1.lt
  replace x1_2 := x1_2.below q2 x1_2.lt
  have bw2 : Below w.heap.size w w2 := bw1.trans (q2.mono bw1.size)
  have lw2 : w1.heap.size ≤ w2.heap.size := q2.size
  clear hb2 q2 bw1
  go_wp2_with fail
  refine bodyPost_ret (v := .tuple #[.int .i64 (tcmp t t'), .nilIface]) (by simp [results, Tryz.results12, go_sem, *] <;> first | rfl | exact ⟨rfl, rfl⟩) rfl ?_
  exact ⟨rfl, bw2⟩
end Go.Proofs.YtmneloabphplmaaGreat
