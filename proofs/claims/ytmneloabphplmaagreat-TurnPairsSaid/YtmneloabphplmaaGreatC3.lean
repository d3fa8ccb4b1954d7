/- TurnPairs: for any two turns and any point the program returns the sum, the order, a turn between and the point turned as the reference does, or the first error; for every input the law returns true. No condition. -/
import Derived.Deep.RegionHeld3
import Derived.Deep.DrawnRows
import Derived.Test.YtmneloabphplmaaGreatC2
set_option linter.unusedVariables false
/- Walks: TurnPairs. -/
namespace Go.Proofs.YtmneloabphplmaaGreat
open Go Go.RowKit Bn
attribute [local go_sem ↓] Go.wp_at_zero Go.wp_at_succ
theorem t_Cmp_v (w : World) (b : Bool) (A : Option Addr) (n c : Nat) (D : Option Addr) (m e : Nat) (x : Bool) (t : TN) (k : Nat) (h : TK w b A n c D m e x t k) (b' : Bool) (A' : Option Addr) (n' c' : Nat) (D' : Option Addr) (m' e' : Nat) (x' : Bool) (t' : TN) (k' : Nat) (h' : TK w b' A' n' c' D' m' e' x' t' k') (v : Int) (hv : tcmp t t' = v) (h0 : 0 < k) (hk : k ≤ 400000) (h0' : 0 < k') (hk' : k' ≤ 400000) : Calls Tryz.prog 12 #[.agg #[.bool b, .slice A n c, .slice D m e, .bool x], .agg #[.bool b', .slice A' n' c', .slice D' m' e', .bool x']] w (RetV w (.tuple #[.int .i64 v, .nilIface])) := by
  subst hv; exact t_Cmp w b A n c D m e x t k h b' A' n' c' D' m' e' x' t' k' h' h0 hk h0' hk'
set_option maxRecDepth 100000 in
set_option maxHeartbeats 12000000 in
/-- linkworklaw12.TurnPairs -/
theorem l_TurnPairs (w : World) (b : Bool) (A : Option Addr) (n c : Nat) (D : Option Addr) (m e : Nat) (ra : RD) (k : Nat) (Hra : QD w b A n c D m e ra k) (b' : Bool) (A' : Option Addr) (n' c' : Nat) (D' : Option Addr) (m' e' : Nat) (rb : RD) (k' : Nat) (Hrb : QD w b' A' n' c' D' m' e' rb k') (b'' : Bool) (A'' : Option Addr) (n'' c'' : Nat) (D'' : Option Addr) (m'' e'' : Nat) (rx : RD) (k'' : Nat) (Hrx : QD w b'' A'' n'' c'' D'' m'' e'' rx k'') (bz : Bool) (Az : Option Addr) (nz cz : Nat) (Dz : Option Addr) (mz ez : Nat) (ry : RD) (kz : Nat) (Hry : QD w bz Az nz cz Dz mz ez ry kz) (x x' : Bool) :
    Calls Tryz.prog 4 #[.agg #[.bool b, .slice A n c, .slice D m e, .bool x], .agg #[.bool b', .slice A' n' c', .slice D' m' e', .bool x'], .agg #[.bool b'', .slice A'' n'' c'', .slice D'' m'' e'', .bool bz, .slice Az nz cz, .slice Dz mz ez]] w (RetV w (.bool true)) := by
  go_enter Tryz.func4, Tryz.ntmps4
  go_wp2_with fail
  (with_reducible refine (l_awake _).mono ?_); rintro e w1 ⟨rfl, hb1⟩
  have q1 : Below w.heap.size w w1 := ((((Below.refl _ _).alloc (Nat.le_refl _) _).alloc (by simp) _).alloc (by simp <;> omega) _).trans (hb1.mono (by simp <;> omega))
  replace Hra := Hra.belw q1
  replace Hrb := Hrb.belw q1
  replace Hrx := Hrx.belw q1
  replace Hry := Hry.belw q1
  have x1_0 : Blk w1 (w.heap.size) 26 #[.bool b, .slice A n c, .slice D m e, .bool x] := (((blkAt _ _ _ (by simp)).alloc _).alloc _).below hb1 (by simp <;> omega)
  have x1_1 : Blk w1 (w.heap.size + 1) 26 #[.bool b', .slice A' n' c', .slice D' m' e', .bool x'] := ((blkAt _ _ _ (by simp)).alloc _).below hb1 (by simp <;> omega)
  have x1_2 : Blk w1 (w.heap.size + 1 + 1) 38 #[.bool b'', .slice A'' n'' c'', .slice D'' m'' e'', .bool bz, .slice Az nz cz, .slice Dz mz ez] := (blkAt _ _ _ (by simp)).below hb1 (by simp)
  have bw1 : Below w.heap.size w w1 := (brefl w).trans (q1.mono (brefl w).size)
  have lw1 : w.heap.size + 3 ≤ w1.heap.size := by have := hb1.size; simp at this; omega
  clear hb1 q1
  obtain ⟨cx1_0_0, cx1_0_1, cx1_0_2, cx1_0_3⟩ := x1_0.c4
  obtain ⟨lx1_0_0, lx1_0_1, lx1_0_2, lx1_0_3⟩ := lts0 x1_0.lt
  obtain ⟨cx1_1_0, cx1_1_1, cx1_1_2, cx1_1_3⟩ := x1_1.c4
  obtain ⟨lx1_1_0, lx1_1_1, lx1_1_2, lx1_1_3⟩ := lts1 x1_1.lt
  obtain ⟨cx1_2_0, cx1_2_1, cx1_2_2, cx1_2_3, cx1_2_4, cx1_2_5⟩ := x1_2.c6
  obtain ⟨lx1_2_0, lx1_2_1, lx1_2_2, lx1_2_3⟩ := lts2 x1_2.lt
  go_wp2_with fail
  (with_reducible refine (l_short _ (w1.heap.size) 4 (fun i : Nat => if i = 0 then n else if i = 1 then n' else if i = 2 then n'' else nz) (fun i : Nat => if i = 0 then m else if i = 1 then m' else if i = 2 then m'' else mz) ?_ ?_).mono ?_); (exact rs4 (blkAt _ _ _ (by simp))); (decide); rintro e w2 ⟨r2, rfl, hr2, hb2⟩
  clear cx1_0_0 cx1_0_1 cx1_0_2 cx1_0_3 lx1_0_0 lx1_0_1 lx1_0_2 lx1_0_3 cx1_1_0 cx1_1_1 cx1_1_2 cx1_1_3 lx1_1_0 lx1_1_1 lx1_1_2 lx1_1_3 cx1_2_0 cx1_2_1 cx1_2_2 cx1_2_3 cx1_2_4 cx1_2_5 lx1_2_0 lx1_2_1 lx1_2_2 lx1_2_3
  have q2 : Below w1.heap.size w1 w2 := ((Below.refl _ _).alloc (Nat.le_refl _) _).trans (hb2.mono (by simp))
  replace Hra := Hra.belw q2
  replace Hrb := Hrb.belw q2
  replace Hrx := Hrx.belw q2
  replace Hry := Hry.belw q2
  replace x1_0 := x1_0.below q2 x1_0.lt
  replace x1_1 := x1_1.below q2 x1_1.lt
  replace x1_2 := x1_2.below q2 x1_2.lt
  have x2_0 : Blk w2 (w1.heap.size) 24 #[.bool b, .slice A n c, .slice D m e, .bool b', .slice A' n' c', .slice D' m' e', .bool b'', .slice A'' n'' c'', .slice D'' m'' e'', .bool bz, .slice Az nz cz, .slice Dz mz ez] := (blkAt _ _ _ (by simp)).below hb2 (by simp)
  have bw2 : Below w.heap.size w w2 := bw1.trans (q2.mono bw1.size)
  have lw2 : w1.heap.size + 1 ≤ w2.heap.size := by have := hb2.size; simp at this; omega
  clear hb2 q2 bw1
  obtain ⟨cx1_0_0, cx1_0_1, cx1_0_2, cx1_0_3⟩ := x1_0.c4
  obtain ⟨lx1_0_0, lx1_0_1, lx1_0_2, lx1_0_3⟩ := lts0 x1_0.lt
  obtain ⟨cx1_1_0, cx1_1_1, cx1_1_2, cx1_1_3⟩ := x1_1.c4
  obtain ⟨lx1_1_0, lx1_1_1, lx1_1_2, lx1_1_3⟩ := lts1 x1_1.lt
  cases r2
  · go_wp2_with fail
    (with_reducible refine (l_awake _).mono ?_); rintro e w3 ⟨rfl, hb3⟩
    clear cx1_0_0 cx1_0_1 cx1_0_2 cx1_0_3 lx1_0_0 lx1_0_1 lx1_0_2 lx1_0_3 cx1_1_0 cx1_1_1 cx1_1_2 cx1_1_3 lx1_1_0 lx1_1_1 lx1_1_2 lx1_1_3
    have q3 : Below w2.heap.size w2 w3 := hb3
    replace Hra := Hra.belw q3
    replace Hrb := Hrb.belw q3
    replace Hrx := Hrx.belw q3
    replace Hry := Hry.belw q3
    replace x1_0 := x1_0.below q3 x1_0.lt
    replace x1_1 := x1_1.below q3 x1_1.lt
    replace x1_2 := x1_2.below q3 x1_2.lt
    replace x2_0 := x2_0.below q3 x2_0.lt
    have bw3 : Below w.heap.size w w3 := bw2.trans (q3.mono bw2.size)
    have lw3 : w2.heap.size ≤ w3.heap.size := q3.size
    clear hb3 q3 bw2
    go_wp2_with fail
    go_ret
    exact retB rfl bw3
  · have hs0 := hr2 rfl 0 (by decide)
    have hs1 := hr2 rfl 1 (by decide)
    have hs2 := hr2 rfl 2 (by decide)
    have hs3 := hr2 rfl 3 (by decide)
    clear hr2
    replace Hra := QD.short Hra hs0
    replace Hrb := QD.short Hrb hs1
    replace Hrx := QD.short Hrx hs2
    replace Hry := QD.short Hry hs3
    clear hs0 hs1 hs2 hs3
    by_cases hca : accT ra x = true
    · have HCA := Lib.hid hca
      clear hca
      by_cases hcb : accT rb x' = true
      · have HCB := Lib.hid hcb
        clear hcb
        have hTa : TK w2 b A n c D m e x ⟨ra.q, x⟩ 6 := acc_tk Hra HCA.out
        have hTb : TK w2 b' A' n' c' D' m' e' x' ⟨rb.q, x'⟩ 6 := acc_tk Hrb HCB.out
        have hQx := QD.qz Hrx
        have hQy := QD.qz Hry
        obtain ⟨u, hu⟩ : ∃ u, tcmp ⟨ra.q, x⟩ ⟨rb.q, x'⟩ = u := ⟨_, rfl⟩
        have HU := Lib.hid hu
        clear hu
        go_wp2_with fail
        (with_reducible refine (t_Add _ b A n c D m e x (⟨ra.q, x⟩) (6) ?_ b' A' n' c' D' m' e' x' (⟨rb.q, x'⟩) (6) ?_ ?_ ?_ ?_ ?_).mono ?_); (exact hTa); (exact hTb); (first | omega | decide | assumption); (first | omega | decide | assumption); (first | omega | decide | assumption); (first | omega | decide | assumption); rintro e w3 ⟨b3, A3, n3, c3, A'3, n'3, c'3, x3, rfl, h3, hb3⟩
        clear cx1_0_0 cx1_0_1 cx1_0_2 cx1_0_3 lx1_0_0 lx1_0_1 lx1_0_2 lx1_0_3 cx1_1_0 cx1_1_1 cx1_1_2 cx1_1_3 lx1_1_0 lx1_1_1 lx1_1_2 lx1_1_3
        have q3 : Below w2.heap.size w2 w3 := hb3
        replace Hra := Hra.belw q3
        replace Hrb := Hrb.belw q3
        replace hTa := hTa.belw q3
        replace hTb := hTb.belw q3
        replace hQx := hQx.belw q3
        replace hQy := hQy.belw q3
        replace x1_0 := x1_0.below q3 x1_0.lt
        replace x1_1 := x1_1.below q3 x1_1.lt
        replace x1_2 := x1_2.below q3 x1_2.lt
        replace x2_0 := x2_0.below q3 x2_0.lt
        have bw3 : Below w.heap.size w w3 := bw2.trans (q3.mono bw2.size)
        have lw3 : w2.heap.size ≤ w3.heap.size := q3.size
        clear hb3 q3 bw2
        obtain ⟨cx1_0_0, cx1_0_1, cx1_0_2, cx1_0_3⟩ := x1_0.c4
        obtain ⟨lx1_0_0, lx1_0_1, lx1_0_2, lx1_0_3⟩ := lts0 x1_0.lt
        obtain ⟨cx1_1_0, cx1_1_1, cx1_1_2, cx1_1_3⟩ := x1_1.c4
        obtain ⟨lx1_1_0, lx1_1_1, lx1_1_2, lx1_1_3⟩ := lts1 x1_1.lt
        go_wp2_with fail
        (with_reducible refine (t_Cmp_v _ b A n c D m e x (⟨ra.q, x⟩) (6) ?_ b' A' n' c' D' m' e' x' (⟨rb.q, x'⟩) (6) ?_ u ?_ ?_ ?_ ?_ ?_).mono ?_); (exact (hTa.belw ((Below.refl _ _).alloc (Nat.le_refl _) _))); (exact (hTb.belw ((Below.refl _ _).alloc (Nat.le_refl _) _))); (exact HU.out); (first | omega | decide | assumption); (first | omega | decide | assumption); (first | omega | decide | assumption); (first | omega | decide | assumption); rintro e w4 ⟨rfl, hb4⟩
        clear cx1_0_0 cx1_0_1 cx1_0_2 cx1_0_3 lx1_0_0 lx1_0_1 lx1_0_2 lx1_0_3 cx1_1_0 cx1_1_1 cx1_1_2 cx1_1_3 lx1_1_0 lx1_1_1 lx1_1_2 lx1_1_3
        have q4 : Below w3.heap.size w3 w4 := ((Below.refl _ _).alloc (Nat.le_refl _) _).trans (hb4.mono (by simp))
        replace Hra := Hra.belw q4
        replace Hrb := Hrb.belw q4
        replace hTa := hTa.belw q4
        replace hTb := hTb.belw q4
        replace hQx := hQx.belw q4
        replace hQy := hQy.belw q4
        replace h3 := h3.belw q4
        replace x1_0 := x1_0.below q4 x1_0.lt
        replace x1_1 := x1_1.below q4 x1_1.lt
        replace x1_2 := x1_2.below q4 x1_2.lt
        replace x2_0 := x2_0.below q4 x2_0.lt
        have x4_0 : Blk w4 (w3.heap.size) 26 #[.bool b3, .slice A3 n3 c3, .slice A'3 n'3 c'3, .bool x3] := (blkAt _ _ _ (by simp)).below hb4 (by simp)
        have bw4 : Below w.heap.size w w4 := bw3.trans (q4.mono bw3.size)
        have lw4 : w3.heap.size + 1 ≤ w4.heap.size := by have := hb4.size; simp at this; omega
        clear hb4 q4 bw3
        obtain ⟨cx1_0_0, cx1_0_1, cx1_0_2, cx1_0_3⟩ := x1_0.c4
        obtain ⟨lx1_0_0, lx1_0_1, lx1_0_2, lx1_0_3⟩ := lts0 x1_0.lt
        obtain ⟨cx1_1_0, cx1_1_1, cx1_1_2, cx1_1_3⟩ := x1_1.c4
        obtain ⟨lx1_1_0, lx1_1_1, lx1_1_2, lx1_1_3⟩ := lts1 x1_1.lt
        go_wp2_with fail
        (with_reducible refine (t_Between _ b A n c D m e x (⟨ra.q, x⟩) (6) ?_ b' A' n' c' D' m' e' x' (⟨rb.q, x'⟩) (6) ?_ ?_ ?_ ?_ ?_).mono ?_); (exact hTa); (exact hTb); (first | omega | decide | assumption); (first | omega | decide | assumption); (first | omega | decide | assumption); (first | omega | decide | assumption); rintro e w5 ⟨b5, A5, n5, c5, A'5, n'5, c'5, x5, rfl, h5, hb5⟩
        clear cx1_0_0 cx1_0_1 cx1_0_2 cx1_0_3 lx1_0_0 lx1_0_1 lx1_0_2 lx1_0_3 cx1_1_0 cx1_1_1 cx1_1_2 cx1_1_3 lx1_1_0 lx1_1_1 lx1_1_2 lx1_1_3
        have q5 : Below w4.heap.size w4 w5 := hb5
        replace Hra := Hra.belw q5
        replace Hrb := Hrb.belw q5
        replace hTa := hTa.belw q5
        replace hTb := hTb.belw q5
        replace hQx := hQx.belw q5
        replace hQy := hQy.belw q5
        replace h3 := h3.belw q5
        replace x1_0 := x1_0.below q5 x1_0.lt
        replace x1_1 := x1_1.below q5 x1_1.lt
        replace x1_2 := x1_2.below q5 x1_2.lt
        replace x2_0 := x2_0.below q5 x2_0.lt
        replace x4_0 := x4_0.below q5 x4_0.lt
        have bw5 : Below w.heap.size w w5 := bw4.trans (q5.mono bw4.size)
        have lw5 : w4.heap.size ≤ w5.heap.size := q5.size
        clear hb5 q5 bw4
        obtain ⟨cx1_0_0, cx1_0_1, cx1_0_2, cx1_0_3⟩ := x1_0.c4
        obtain ⟨lx1_0_0, lx1_0_1, lx1_0_2, lx1_0_3⟩ := lts0 x1_0.lt
        obtain ⟨cx1_2_0, cx1_2_1, cx1_2_2, cx1_2_3, cx1_2_4, cx1_2_5⟩ := x1_2.c6
        obtain ⟨lx1_2_0, lx1_2_1, lx1_2_2, lx1_2_3⟩ := lts2 x1_2.lt
        go_wp2_with fail
        (with_reducible refine (t_Apply _ b A n c D m e x (⟨ra.q, x⟩) (6) ?_ b'' A'' n'' c'' D'' m'' e'' (rx.q) (6) ?_ bz Az nz cz Dz mz ez (ry.q) (6) ?_ ?_ ?_ ?_ ?_ ?_ ?_).mono ?_); (exact (hTa.belw ((Below.refl _ _).alloc (Nat.le_refl _) _))); (exact (hQx.belw ((Below.refl _ _).alloc (Nat.le_refl _) _))); (exact (hQy.belw ((Below.refl _ _).alloc (Nat.le_refl _) _))); (first | omega | decide | assumption); (first | omega | decide | assumption); (first | omega | decide | assumption); (first | omega | decide | assumption); (first | omega | decide | assumption); (first | omega | decide | assumption); rintro e w6 ⟨b6, A6, n6, c6, A'6, n'6, c'6, d6, D6, m6, e6, D'6, m'6, e'6, rfl, h6, h'6, hb6⟩
        clear cx1_0_0 cx1_0_1 cx1_0_2 cx1_0_3 lx1_0_0 lx1_0_1 lx1_0_2 lx1_0_3 cx1_2_0 cx1_2_1 cx1_2_2 cx1_2_3 cx1_2_4 cx1_2_5 lx1_2_0 lx1_2_1 lx1_2_2 lx1_2_3
        have q6 : Below w5.heap.size w5 w6 := ((Below.refl _ _).alloc (Nat.le_refl _) _).trans (hb6.mono (by simp))
        replace Hra := Hra.belw q6
        replace Hrb := Hrb.belw q6
        replace hTa := hTa.belw q6
        replace hTb := hTb.belw q6
        replace hQx := hQx.belw q6
        replace hQy := hQy.belw q6
        replace h3 := h3.belw q6
        replace h5 := h5.belw q6
        replace x1_0 := x1_0.below q6 x1_0.lt
        replace x1_1 := x1_1.below q6 x1_1.lt
        replace x1_2 := x1_2.below q6 x1_2.lt
        replace x2_0 := x2_0.below q6 x2_0.lt
        replace x4_0 := x4_0.below q6 x4_0.lt
        have x6_0 : Blk w6 (w5.heap.size) 26 #[.bool b5, .slice A5 n5 c5, .slice A'5 n'5 c'5, .bool x5] := (blkAt _ _ _ (by simp)).below hb6 (by simp)
        have bw6 : Below w.heap.size w w6 := bw5.trans (q6.mono bw5.size)
        have lw6 : w5.heap.size + 1 ≤ w6.heap.size := by have := hb6.size; simp at this; omega
        clear hb6 q6 bw5
        obtain ⟨cx1_0_0, cx1_0_1, cx1_0_2, cx1_0_3⟩ := x1_0.c4
        obtain ⟨lx1_0_0, lx1_0_1, lx1_0_2, lx1_0_3⟩ := lts0 x1_0.lt
        go_wp2_with fail
        (with_reducible refine (g_chk_v _ b A n c D m e (ra) (6) ?_ x 0 ?_ ?_ ?_).mono ?_); (exact (Hra.belw ((Below.refl _ _).alloc (Nat.le_refl _) _))); (exact if_pos HCA.out); (first | omega | decide | assumption); (first | omega | decide | assumption); rintro e w7 ⟨rfl, hb7⟩
        clear cx1_0_0 cx1_0_1 cx1_0_2 cx1_0_3 lx1_0_0 lx1_0_1 lx1_0_2 lx1_0_3
        have q7 : Below w6.heap.size w6 w7 := ((Below.refl _ _).alloc (Nat.le_refl _) _).trans (hb7.mono (by simp))
        replace Hra := Hra.belw q7
        replace Hrb := Hrb.belw q7
        replace hTa := hTa.belw q7
        replace hTb := hTb.belw q7
        replace hQx := hQx.belw q7
        replace hQy := hQy.belw q7
        replace h3 := h3.belw q7
        replace h5 := h5.belw q7
        replace h6 := h6.belw q7
        replace h'6 := h'6.belw q7
        replace x1_0 := x1_0.below q7 x1_0.lt
        replace x1_1 := x1_1.below q7 x1_1.lt
        replace x1_2 := x1_2.below q7 x1_2.lt
        replace x2_0 := x2_0.below q7 x2_0.lt
        replace x4_0 := x4_0.below q7 x4_0.lt
        replace x6_0 := x6_0.below q7 x6_0.lt
        have x7_0 : Blk w7 (w6.heap.size) 38 #[.bool b6, .slice A6 n6 c6, .slice A'6 n'6 c'6, .bool d6, .slice D6 m6 e6, .slice D'6 m'6 e'6] := (blkAt _ _ _ (by simp)).below hb7 (by simp)
        have bw7 : Below w.heap.size w w7 := bw6.trans (q7.mono bw6.size)
        have lw7 : w6.heap.size + 1 ≤ w7.heap.size := by have := hb7.size; simp at this; omega
        clear hb7 q7 bw6
        obtain ⟨cx1_0_0, cx1_0_1, cx1_0_2, cx1_0_3⟩ := x1_0.c4
        obtain ⟨lx1_0_0, lx1_0_1, lx1_0_2, lx1_0_3⟩ := lts0 x1_0.lt
        obtain ⟨cx1_2_0, cx1_2_1, cx1_2_2, cx1_2_3, cx1_2_4, cx1_2_5⟩ := x1_2.c6
        obtain ⟨lx1_2_0, lx1_2_1, lx1_2_2, lx1_2_3⟩ := lts2 x1_2.lt
        go_wp2_with fail
        (with_reducible refine (u_Apply _ b A n c D m e x (⟨ra.q, x⟩) (6) ?_ b'' A'' n'' c'' D'' m'' e'' (rx.q) (6) ?_ bz Az nz cz Dz mz ez (ry.q) (6) ?_ ?_ ?_ ?_ ?_ ?_ ?_).mono ?_); (exact hTa); (exact hQx); (exact hQy); (first | omega | decide | assumption); (first | omega | decide | assumption); (first | omega | decide | assumption); (first | omega | decide | assumption); (first | omega | decide | assumption); (first | omega | decide | assumption); rintro e w8 ⟨b8, A8, n8, c8, A'8, n'8, c'8, d8, D8, m8, e8, D'8, m'8, e'8, rfl, h8, h'8, hb8⟩
        clear cx1_0_0 cx1_0_1 cx1_0_2 cx1_0_3 lx1_0_0 lx1_0_1 lx1_0_2 lx1_0_3 cx1_2_0 cx1_2_1 cx1_2_2 cx1_2_3 cx1_2_4 cx1_2_5 lx1_2_0 lx1_2_1 lx1_2_2 lx1_2_3
        have q8 : Below w7.heap.size w7 w8 := hb8
        replace Hra := Hra.belw q8
        replace Hrb := Hrb.belw q8
        replace hTa := hTa.belw q8
        replace hTb := hTb.belw q8
        replace hQx := hQx.belw q8
        replace hQy := hQy.belw q8
        replace h3 := h3.belw q8
        replace h5 := h5.belw q8
        replace h6 := h6.belw q8
        replace h'6 := h'6.belw q8
        replace x1_0 := x1_0.below q8 x1_0.lt
        replace x1_1 := x1_1.below q8 x1_1.lt
        replace x1_2 := x1_2.below q8 x1_2.lt
        replace x2_0 := x2_0.below q8 x2_0.lt
        replace x4_0 := x4_0.below q8 x4_0.lt
        replace x6_0 := x6_0.below q8 x6_0.lt
        replace x7_0 := x7_0.below q8 x7_0.lt
        have bw8 : Below w.heap.size w w8 := bw7.trans (q8.mono bw7.size)
        have lw8 : w7.heap.size ≤ w8.heap.size := q8.size
        clear hb8 q8 bw7
        obtain ⟨cx7_0_0, cx7_0_1, cx7_0_2, cx7_0_3, cx7_0_4, cx7_0_5⟩ := x7_0.c6
        obtain ⟨lx7_0_0, lx7_0_1, lx7_0_2, lx7_0_3⟩ := lts0 x7_0.lt
        go_wp2_with fail
        (with_reducible refine (g_cmp_e _ b6 A6 n6 c6 A'6 n'6 c'6 ((tapply (⟨ra.q, x⟩) (rx.q) (ry.q)).1) (8 * (6) + 9 + (6) + (6)) ?_ b8 A8 n8 c8 A'8 n'8 c'8 ((tapply (⟨ra.q, x⟩) (rx.q) (ry.q)).1) (8 * (6) + 9 + (6) + (6)) ?_ 0 ?_ ?_ ?_ ?_ ?_).mono ?_); (exact (h6.belw ((Below.refl _ _).alloc (Nat.le_refl _) _)).qz); (exact (h8.belw ((Below.refl _ _).alloc (Nat.le_refl _) _)).qz); (exact sub_sign.2 rfl); (first | omega | decide | assumption); (first | omega | decide | assumption); (first | omega | decide | assumption); (first | omega | decide | assumption); rintro e w9 ⟨rfl, hb9⟩
        clear cx7_0_0 cx7_0_1 cx7_0_2 cx7_0_3 cx7_0_4 cx7_0_5 lx7_0_0 lx7_0_1 lx7_0_2 lx7_0_3
        have q9 : Below w8.heap.size w8 w9 := ((Below.refl _ _).alloc (Nat.le_refl _) _).trans (hb9.mono (by simp))
        replace Hra := Hra.belw q9
        replace Hrb := Hrb.belw q9
        replace hTa := hTa.belw q9
        replace hTb := hTb.belw q9
        replace hQx := hQx.belw q9
        replace hQy := hQy.belw q9
        replace h3 := h3.belw q9
        replace h5 := h5.belw q9
        replace h6 := h6.belw q9
        replace h'6 := h'6.belw q9
        replace h8 := h8.belw q9
        replace h'8 := h'8.belw q9
        replace x1_0 := x1_0.below q9 x1_0.lt
        replace x1_1 := x1_1.below q9 x1_1.lt
        replace x1_2 := x1_2.below q9 x1_2.lt
        replace x2_0 := x2_0.below q9 x2_0.lt
        replace x4_0 := x4_0.below q9 x4_0.lt
        replace x6_0 := x6_0.below q9 x6_0.lt
        replace x7_0 := x7_0.below q9 x7_0.lt
        have x9_0 : Blk w9 (w8.heap.size) 38 #[.bool b8, .slice A8 n8 c8, .slice A'8 n'8 c'8, .bool d8, .slice D8 m8 e8, .slice D'8 m'8 e'8] := (blkAt _ _ _ (by simp)).below hb9 (by simp)
        have bw9 : Below w.heap.size w w9 := bw8.trans (q9.mono bw8.size)
        have lw9 : w8.heap.size + 1 ≤ w9.heap.size := by have := hb9.size; simp at this; omega
        clear hb9 q9 bw8
        obtain ⟨cx7_0_0, cx7_0_1, cx7_0_2, cx7_0_3, cx7_0_4, cx7_0_5⟩ := x7_0.c6
        obtain ⟨lx7_0_0, lx7_0_1, lx7_0_2, lx7_0_3⟩ := lts0 x7_0.lt
        obtain ⟨cx9_0_0, cx9_0_1, cx9_0_2, cx9_0_3, cx9_0_4, cx9_0_5⟩ := x9_0.c6
        obtain ⟨lx9_0_0, lx9_0_1, lx9_0_2, lx9_0_3⟩ := lts0 x9_0.lt
        go_wp2_with fail
        (with_reducible refine (g_cmp_e _ d6 D6 m6 e6 D'6 m'6 e'6 ((tapply (⟨ra.q, x⟩) (rx.q) (ry.q)).2) (8 * (6) + 9 + (6) + (6)) ?_ d8 D8 m8 e8 D'8 m'8 e'8 ((tapply (⟨ra.q, x⟩) (rx.q) (ry.q)).2) (8 * (6) + 9 + (6) + (6)) ?_ 0 ?_ ?_ ?_ ?_ ?_).mono ?_); (exact h'6.qz); (exact h'8.qz); (exact sub_sign.2 rfl); (first | omega | decide | assumption); (first | omega | decide | assumption); (first | omega | decide | assumption); (first | omega | decide | assumption); rintro e w10 ⟨rfl, hb10⟩
        clear cx7_0_0 cx7_0_1 cx7_0_2 cx7_0_3 cx7_0_4 cx7_0_5 lx7_0_0 lx7_0_1 lx7_0_2 lx7_0_3 cx9_0_0 cx9_0_1 cx9_0_2 cx9_0_3 cx9_0_4 cx9_0_5 lx9_0_0 lx9_0_1 lx9_0_2 lx9_0_3
        have q10 : Below w9.heap.size w9 w10 := hb10
        replace Hra := Hra.belw q10
        replace Hrb := Hrb.belw q10
        replace hTa := hTa.belw q10
        replace hTb := hTb.belw q10
        replace hQx := hQx.belw q10
        replace hQy := hQy.belw q10
        replace h3 := h3.belw q10
        replace h5 := h5.belw q10
        replace h6 := h6.belw q10
        replace h'6 := h'6.belw q10
        replace h8 := h8.belw q10
        replace h'8 := h'8.belw q10
        replace x1_0 := x1_0.below q10 x1_0.lt
        replace x1_1 := x1_1.below q10 x1_1.lt
        replace x1_2 := x1_2.below q10 x1_2.lt
        replace x2_0 := x2_0.below q10 x2_0.lt
        replace x4_0 := x4_0.below q10 x4_0.lt
        replace x6_0 := x6_0.below q10 x6_0.lt
        replace x7_0 := x7_0.below q10 x7_0.lt
        replace x9_0 := x9_0.below q10 x9_0.lt
        have bw10 : Below w.heap.size w w10 := bw9.trans (q10.mono bw9.size)
        have lw10 : w9.heap.size ≤ w10.heap.size := q10.size
        clear hb10 q10 bw9
        obtain ⟨cx1_1_0, cx1_1_1, cx1_1_2, cx1_1_3⟩ := x1_1.c4
        obtain ⟨lx1_1_0, lx1_1_1, lx1_1_2, lx1_1_3⟩ := lts1 x1_1.lt
        go_wp2_with fail
        (with_reducible refine (g_chk_v _ b' A' n' c' D' m' e' (rb) (6) ?_ x' 0 ?_ ?_ ?_).mono ?_); (exact Hrb); (exact if_pos HCB.out); (first | omega | decide | assumption); (first | omega | decide | assumption); rintro e w11 ⟨rfl, hb11⟩
        clear cx1_1_0 cx1_1_1 cx1_1_2 cx1_1_3 lx1_1_0 lx1_1_1 lx1_1_2 lx1_1_3
        have q11 : Below w10.heap.size w10 w11 := hb11
        replace Hra := Hra.belw q11
        replace Hrb := Hrb.belw q11
        replace hTa := hTa.belw q11
        replace hTb := hTb.belw q11
        replace hQx := hQx.belw q11
        replace hQy := hQy.belw q11
        replace h3 := h3.belw q11
        replace h5 := h5.belw q11
        replace h6 := h6.belw q11
        replace h'6 := h'6.belw q11
        replace h8 := h8.belw q11
        replace h'8 := h'8.belw q11
        replace x1_0 := x1_0.below q11 x1_0.lt
        replace x1_1 := x1_1.below q11 x1_1.lt
        replace x1_2 := x1_2.below q11 x1_2.lt
        replace x2_0 := x2_0.below q11 x2_0.lt
        replace x4_0 := x4_0.below q11 x4_0.lt
        replace x6_0 := x6_0.below q11 x6_0.lt
        replace x7_0 := x7_0.below q11 x7_0.lt
        replace x9_0 := x9_0.below q11 x9_0.lt
        have bw11 : Below w.heap.size w w11 := bw10.trans (q11.mono bw10.size)
        have lw11 : w10.heap.size ≤ w11.heap.size := q11.size
        clear hb11 q11 bw10
        obtain ⟨cx1_0_0, cx1_0_1, cx1_0_2, cx1_0_3⟩ := x1_0.c4
        obtain ⟨lx1_0_0, lx1_0_1, lx1_0_2, lx1_0_3⟩ := lts0 x1_0.lt
        obtain ⟨cx1_1_0, cx1_1_1, cx1_1_2, cx1_1_3⟩ := x1_1.c4
        obtain ⟨lx1_1_0, lx1_1_1, lx1_1_2, lx1_1_3⟩ := lts1 x1_1.lt
        obtain ⟨lx1_2_0, lx1_2_1, lx1_2_2, lx1_2_3⟩ := lts2 x1_2.lt
        obtain ⟨lx2_0_0, lx2_0_1, lx2_0_2, lx2_0_3⟩ := lts0 x2_0.lt
        obtain ⟨cx4_0_0, cx4_0_1, cx4_0_2, cx4_0_3⟩ := x4_0.c4
        obtain ⟨lx4_0_0, lx4_0_1, lx4_0_2, lx4_0_3⟩ := lts0 x4_0.lt
        obtain ⟨cx6_0_0, cx6_0_1, cx6_0_2, cx6_0_3⟩ := x6_0.c4
        obtain ⟨lx6_0_0, lx6_0_1, lx6_0_2, lx6_0_3⟩ := lts0 x6_0.lt
        obtain ⟨lx7_0_0, lx7_0_1, lx7_0_2, lx7_0_3⟩ := lts0 x7_0.lt
        obtain ⟨lx9_0_0, lx9_0_1, lx9_0_2, lx9_0_3⟩ := lts0 x9_0.lt
        go_wp2_with fail
        go_region_held3 (fun w' => Sees w11.heap.size w11 w') (first | with_reducible exact Sees.of (Nat.le_refl _) (by assumption) | with_reducible exact Sees.of (Nat.le_refl _) (brefl _).drew | exact Sees.of (Nat.le_refl _) (below_drewN (brefl _) 1) | exact Sees.of (Nat.le_refl _) (below_drewN (by assumption) _))
          (first
            | (go_at_call 18; (with_reducible refine (u_Add _ b A n c D m e x (⟨ra.q, x⟩) (6) ?_ b' A' n' c' D' m' e' x' (⟨rb.q, x'⟩) (6) ?_ ?_ ?_ ?_ ?_).mono ?_); (exact hTa); (exact hTb); (first | omega | decide | assumption); (first | omega | decide | assumption); (first | omega | decide | assumption); (first | omega | decide | assumption); rintro e w12 ⟨b12, A12, n12, c12, A'12, n'12, c'12, x12, rfl, h12, hb12⟩; replace hb12 := bnext (below_drewN (brefl _) 1) hb12; have q12 : Below w11.heap.size w11 w12 := bnext (brefl w11) hb12; replace hTa := hTa.belw hb12; replace hTb := hTb.belw hb12; replace hQx := hQx.belw hb12; replace hQy := hQy.belw hb12; replace h3 := h3.belw hb12; replace h5 := h5.belw hb12; replace h6 := h6.belw hb12; replace h'6 := h'6.belw hb12; replace h8 := h8.belw hb12; replace h'8 := h'8.belw hb12)
            | (go_at_call 17; (with_reducible refine (g_same_e _ b3 A3 n3 c3 A'3 n'3 c'3 x3 (tadd (⟨ra.q, x⟩) (⟨rb.q, x'⟩)) (2 * (6) + 2 * (6) + 3) ?_ b12 A12 n12 c12 A'12 n'12 c'12 x12 (tadd ((⟨ra.q, x⟩)) ((⟨rb.q, x'⟩))) (2 * ((6)) + 2 * ((6)) + 3) ?_ true ?_ ?_ ?_ ?_ ?_).mono ?_); (exact h3.tk); (exact h12.tk); (exact ⟨fun _ => rfl, fun _ => rfl⟩); (first | omega | decide | assumption); (first | omega | decide | assumption); (first | omega | decide | assumption); (first | omega | decide | assumption); rintro e w13 ⟨rfl, hb13⟩; have q13 : Below w11.heap.size w11 w13 := bnext q12 hb13; replace hTa := hTa.belw hb13; replace hTb := hTb.belw hb13; replace hQx := hQx.belw hb13; replace hQy := hQy.belw hb13; replace h3 := h3.belw hb13; replace h5 := h5.belw hb13; replace h6 := h6.belw hb13; replace h'6 := h'6.belw hb13; replace h8 := h8.belw hb13; replace h'8 := h'8.belw hb13; replace h12 := h12.belw hb13)
            | (go_at_call 19; (with_reducible refine (u_Cmp_e _ b A n c D m e x (⟨ra.q, x⟩) (6) ?_ b' A' n' c' D' m' e' x' (⟨rb.q, x'⟩) (6) ?_ u ?_ ?_ ?_ ?_ ?_).mono ?_); (exact hTa); (exact hTb); (exact HU.out); (first | omega | decide | assumption); (first | omega | decide | assumption); (first | omega | decide | assumption); (first | omega | decide | assumption); rintro e w14 ⟨rfl, hb14⟩; have q14 : Below w11.heap.size w11 w14 := bnext q13 hb14; replace hTa := hTa.belw hb14; replace hTb := hTb.belw hb14; replace hQx := hQx.belw hb14; replace hQy := hQy.belw hb14; replace h3 := h3.belw hb14; replace h5 := h5.belw hb14; replace h6 := h6.belw hb14; replace h'6 := h'6.belw hb14; replace h8 := h8.belw hb14; replace h'8 := h'8.belw hb14; replace h12 := h12.belw hb14)
            | (go_at_call 20; (with_reducible refine (u_Between _ b A n c D m e x (⟨ra.q, x⟩) (6) ?_ b' A' n' c' D' m' e' x' (⟨rb.q, x'⟩) (6) ?_ ?_ ?_ ?_ ?_).mono ?_); (exact hTa); (exact hTb); (first | omega | decide | assumption); (first | omega | decide | assumption); (first | omega | decide | assumption); (first | omega | decide | assumption); rintro e w15 ⟨b15, A15, n15, c15, A'15, n'15, c'15, x15, rfl, h15, hb15⟩; have q15 : Below w11.heap.size w11 w15 := bnext q14 hb15; replace hTa := hTa.belw hb15; replace hTb := hTb.belw hb15; replace hQx := hQx.belw hb15; replace hQy := hQy.belw hb15; replace h3 := h3.belw hb15; replace h5 := h5.belw hb15; replace h6 := h6.belw hb15; replace h'6 := h'6.belw hb15; replace h8 := h8.belw hb15; replace h'8 := h'8.belw hb15; replace h12 := h12.belw hb15)
            | (go_at_call 17; (with_reducible refine (g_same_e _ b5 A5 n5 c5 A'5 n'5 c'5 x5 (tbetween (⟨ra.q, x⟩) (⟨rb.q, x'⟩)) (6 * (6) + 4 * (6) + 20) ?_ b15 A15 n15 c15 A'15 n'15 c'15 x15 (tbetween ((⟨ra.q, x⟩)) ((⟨rb.q, x'⟩))) (6 * ((6)) + 4 * ((6)) + 20) ?_ true ?_ ?_ ?_ ?_ ?_).mono ?_); (exact h5.tk); (exact h15.tk); (exact ⟨fun _ => rfl, fun _ => rfl⟩); (first | omega | decide | assumption); (first | omega | decide | assumption); (first | omega | decide | assumption); (first | omega | decide | assumption); rintro e w16 ⟨rfl, hb16⟩; have q16 : Below w11.heap.size w11 w16 := bnext q15 hb16; replace hTa := hTa.belw hb16; replace hTb := hTb.belw hb16; replace hQx := hQx.belw hb16; replace hQy := hQy.belw hb16; replace h3 := h3.belw hb16; replace h5 := h5.belw hb16; replace h6 := h6.belw hb16; replace h'6 := h'6.belw hb16; replace h8 := h8.belw hb16; replace h'8 := h'8.belw hb16; replace h12 := h12.belw hb16; replace h15 := h15.belw hb16))
        have bw16 : Below w.heap.size w w16 := bw11.trans (q16.mono bw11.size)
        clear cx1_0_0 cx1_0_1 cx1_0_2 cx1_0_3 lx1_0_0 lx1_0_1 lx1_0_2 lx1_0_3 cx1_1_0 cx1_1_1 cx1_1_2 cx1_1_3 lx1_1_0 lx1_1_1 lx1_1_2 lx1_1_3 lx1_2_0 lx1_2_1 lx1_2_2 lx1_2_3 lx2_0_0 lx2_0_1 lx2_0_2 lx2_0_3 cx4_0_0 cx4_0_1 cx4_0_2 cx4_0_3 lx4_0_0 lx4_0_1 lx4_0_2 lx4_0_3 cx6_0_0 cx6_0_1 cx6_0_2 cx6_0_3 lx6_0_0 lx6_0_1 lx6_0_2 lx6_0_3 lx7_0_0 lx7_0_1 lx7_0_2 lx7_0_3 lx9_0_0 lx9_0_1 lx9_0_2 lx9_0_3
        replace x1_0 := x1_0.below q16 x1_0.lt
        replace x1_1 := x1_1.below q16 x1_1.lt
        replace x1_2 := x1_2.below q16 x1_2.lt
        replace x2_0 := x2_0.below q16 x2_0.lt
        replace x4_0 := x4_0.below q16 x4_0.lt
        replace x6_0 := x6_0.below q16 x6_0.lt
        replace x7_0 := x7_0.below q16 x7_0.lt
        replace x9_0 := x9_0.below q16 x9_0.lt
        have lw16 : w11.heap.size ≤ w16.heap.size := q16.size
        go_wp2_with fail
        go_ret
        exact retB rfl bw16
      · have hbb : accT rb x' = false := by revert hcb; cases accT rb x' <;> simp
        have HBB := Lib.hid hbb
        have HBAD := Lib.hid (show accT ra x = false ∨ accT rb x' = false from .inr hbb)
        clear hcb hbb
        have hTa : TK w2 b A n c D m e x ⟨ra.q, x⟩ 6 := acc_tk Hra HCA.out
        go_wp2_with fail
        (with_reducible refine (t_Add_bad _ 6 b A n c D m e ra ?_ b' A' n' c' D' m' e' rb ?_ x x' ?_ ?_ ?_).mono ?_); (exact Hra); (exact Hrb); (decide); (decide); (exact HBAD.out); rintro e w3 ⟨rfl, hb3⟩
        clear cx1_0_0 cx1_0_1 cx1_0_2 cx1_0_3 lx1_0_0 lx1_0_1 lx1_0_2 lx1_0_3 cx1_1_0 cx1_1_1 cx1_1_2 cx1_1_3 lx1_1_0 lx1_1_1 lx1_1_2 lx1_1_3
        have q3 : Below w2.heap.size w2 w3 := hb3
        replace Hra := Hra.belw q3
        replace Hrb := Hrb.belw q3
        replace Hrx := Hrx.belw q3
        replace Hry := Hry.belw q3
        replace hTa := hTa.belw q3
        replace x1_0 := x1_0.below q3 x1_0.lt
        replace x1_1 := x1_1.below q3 x1_1.lt
        replace x1_2 := x1_2.below q3 x1_2.lt
        replace x2_0 := x2_0.below q3 x2_0.lt
        have bw3 : Below w.heap.size w w3 := bw2.trans (q3.mono bw2.size)
        have lw3 : w2.heap.size ≤ w3.heap.size := q3.size
        clear hb3 q3 bw2
        obtain ⟨cx1_0_0, cx1_0_1, cx1_0_2, cx1_0_3⟩ := x1_0.c4
        obtain ⟨lx1_0_0, lx1_0_1, lx1_0_2, lx1_0_3⟩ := lts0 x1_0.lt
        obtain ⟨cx1_1_0, cx1_1_1, cx1_1_2, cx1_1_3⟩ := x1_1.c4
        obtain ⟨lx1_1_0, lx1_1_1, lx1_1_2, lx1_1_3⟩ := lts1 x1_1.lt
        go_wp2_with fail
        (with_reducible refine (t_Cmp_bad _ 6 b A n c D m e ra ?_ b' A' n' c' D' m' e' rb ?_ x x' ?_ ?_ ?_).mono ?_); (exact (Hra.belw ((Below.refl _ _).alloc (Nat.le_refl _) _))); (exact (Hrb.belw ((Below.refl _ _).alloc (Nat.le_refl _) _))); (decide); (decide); (exact HBAD.out); rintro e w4 ⟨rfl, hb4⟩
        clear cx1_0_0 cx1_0_1 cx1_0_2 cx1_0_3 lx1_0_0 lx1_0_1 lx1_0_2 lx1_0_3 cx1_1_0 cx1_1_1 cx1_1_2 cx1_1_3 lx1_1_0 lx1_1_1 lx1_1_2 lx1_1_3
        have q4 : Below w3.heap.size w3 w4 := ((Below.refl _ _).alloc (Nat.le_refl _) _).trans (hb4.mono (by simp))
        replace Hra := Hra.belw q4
        replace Hrb := Hrb.belw q4
        replace Hrx := Hrx.belw q4
        replace Hry := Hry.belw q4
        replace hTa := hTa.belw q4
        replace x1_0 := x1_0.below q4 x1_0.lt
        replace x1_1 := x1_1.below q4 x1_1.lt
        replace x1_2 := x1_2.below q4 x1_2.lt
        replace x2_0 := x2_0.below q4 x2_0.lt
        have x4_0 : Blk w4 (w3.heap.size) 26 #[.bool false, .slice none 0 0, .slice none 0 0, .bool false] := (blkAt _ _ _ (by simp)).below hb4 (by simp)
        have bw4 : Below w.heap.size w w4 := bw3.trans (q4.mono bw3.size)
        have lw4 : w3.heap.size + 1 ≤ w4.heap.size := by have := hb4.size; simp at this; omega
        clear hb4 q4 bw3
        obtain ⟨cx1_0_0, cx1_0_1, cx1_0_2, cx1_0_3⟩ := x1_0.c4
        obtain ⟨lx1_0_0, lx1_0_1, lx1_0_2, lx1_0_3⟩ := lts0 x1_0.lt
        obtain ⟨cx1_1_0, cx1_1_1, cx1_1_2, cx1_1_3⟩ := x1_1.c4
        obtain ⟨lx1_1_0, lx1_1_1, lx1_1_2, lx1_1_3⟩ := lts1 x1_1.lt
        go_wp2_with fail
        (with_reducible refine (t_Between_bad _ 6 b A n c D m e ra ?_ b' A' n' c' D' m' e' rb ?_ x x' ?_ ?_ ?_).mono ?_); (exact Hra); (exact Hrb); (decide); (decide); (exact HBAD.out); rintro e w5 ⟨rfl, hb5⟩
        clear cx1_0_0 cx1_0_1 cx1_0_2 cx1_0_3 lx1_0_0 lx1_0_1 lx1_0_2 lx1_0_3 cx1_1_0 cx1_1_1 cx1_1_2 cx1_1_3 lx1_1_0 lx1_1_1 lx1_1_2 lx1_1_3
        have q5 : Below w4.heap.size w4 w5 := hb5
        replace Hra := Hra.belw q5
        replace Hrb := Hrb.belw q5
        replace Hrx := Hrx.belw q5
        replace Hry := Hry.belw q5
        replace hTa := hTa.belw q5
        replace x1_0 := x1_0.below q5 x1_0.lt
        replace x1_1 := x1_1.below q5 x1_1.lt
        replace x1_2 := x1_2.below q5 x1_2.lt
        replace x2_0 := x2_0.below q5 x2_0.lt
        replace x4_0 := x4_0.below q5 x4_0.lt
        have bw5 : Below w.heap.size w w5 := bw4.trans (q5.mono bw4.size)
        have lw5 : w4.heap.size ≤ w5.heap.size := q5.size
        clear hb5 q5 bw4
        obtain ⟨cx1_0_0, cx1_0_1, cx1_0_2, cx1_0_3⟩ := x1_0.c4
        obtain ⟨lx1_0_0, lx1_0_1, lx1_0_2, lx1_0_3⟩ := lts0 x1_0.lt
        obtain ⟨cx1_2_0, cx1_2_1, cx1_2_2, cx1_2_3, cx1_2_4, cx1_2_5⟩ := x1_2.c6
        obtain ⟨lx1_2_0, lx1_2_1, lx1_2_2, lx1_2_3⟩ := lts2 x1_2.lt
        go_wp2_with fail
        have hQx := QD.qz Hrx
        have hQy := QD.qz Hry
        (with_reducible refine (t_Apply _ b A n c D m e x (⟨ra.q, x⟩) (6) ?_ b'' A'' n'' c'' D'' m'' e'' (rx.q) (6) ?_ bz Az nz cz Dz mz ez (ry.q) (6) ?_ ?_ ?_ ?_ ?_ ?_ ?_).mono ?_); (exact (hTa.belw ((Below.refl _ _).alloc (Nat.le_refl _) _))); (exact (hQx.belw ((Below.refl _ _).alloc (Nat.le_refl _) _))); (exact (hQy.belw ((Below.refl _ _).alloc (Nat.le_refl _) _))); (first | omega | decide | assumption); (first | omega | decide | assumption); (first | omega | decide | assumption); (first | omega | decide | assumption); (first | omega | decide | assumption); (first | omega | decide | assumption); rintro e w6 ⟨b6, A6, n6, c6, A'6, n'6, c'6, d6, D6, m6, e6, D'6, m'6, e'6, rfl, h6, h'6, hb6⟩
        clear cx1_0_0 cx1_0_1 cx1_0_2 cx1_0_3 lx1_0_0 lx1_0_1 lx1_0_2 lx1_0_3 cx1_2_0 cx1_2_1 cx1_2_2 cx1_2_3 cx1_2_4 cx1_2_5 lx1_2_0 lx1_2_1 lx1_2_2 lx1_2_3
        have q6 : Below w5.heap.size w5 w6 := ((Below.refl _ _).alloc (Nat.le_refl _) _).trans (hb6.mono (by simp))
        replace Hra := Hra.belw q6
        replace Hrb := Hrb.belw q6
        replace hTa := hTa.belw q6
        replace hQx := hQx.belw q6
        replace hQy := hQy.belw q6
        replace x1_0 := x1_0.below q6 x1_0.lt
        replace x1_1 := x1_1.below q6 x1_1.lt
        replace x1_2 := x1_2.below q6 x1_2.lt
        replace x2_0 := x2_0.below q6 x2_0.lt
        replace x4_0 := x4_0.below q6 x4_0.lt
        have x6_0 : Blk w6 (w5.heap.size) 26 #[.bool false, .slice none 0 0, .slice none 0 0, .bool false] := (blkAt _ _ _ (by simp)).below hb6 (by simp)
        have bw6 : Below w.heap.size w w6 := bw5.trans (q6.mono bw5.size)
        have lw6 : w5.heap.size + 1 ≤ w6.heap.size := by have := hb6.size; simp at this; omega
        clear hb6 q6 bw5
        obtain ⟨cx1_0_0, cx1_0_1, cx1_0_2, cx1_0_3⟩ := x1_0.c4
        obtain ⟨lx1_0_0, lx1_0_1, lx1_0_2, lx1_0_3⟩ := lts0 x1_0.lt
        go_wp2_with fail
        (with_reducible refine (g_chk_v _ b A n c D m e (ra) (6) ?_ x 0 ?_ ?_ ?_).mono ?_); (exact (Hra.belw ((Below.refl _ _).alloc (Nat.le_refl _) _))); (exact if_pos HCA.out); (first | omega | decide | assumption); (first | omega | decide | assumption); rintro e w7 ⟨rfl, hb7⟩
        clear cx1_0_0 cx1_0_1 cx1_0_2 cx1_0_3 lx1_0_0 lx1_0_1 lx1_0_2 lx1_0_3
        have q7 : Below w6.heap.size w6 w7 := ((Below.refl _ _).alloc (Nat.le_refl _) _).trans (hb7.mono (by simp))
        replace Hra := Hra.belw q7
        replace Hrb := Hrb.belw q7
        replace hTa := hTa.belw q7
        replace hQx := hQx.belw q7
        replace hQy := hQy.belw q7
        replace h6 := h6.belw q7
        replace h'6 := h'6.belw q7
        replace x1_0 := x1_0.below q7 x1_0.lt
        replace x1_1 := x1_1.below q7 x1_1.lt
        replace x1_2 := x1_2.below q7 x1_2.lt
        replace x2_0 := x2_0.below q7 x2_0.lt
        replace x4_0 := x4_0.below q7 x4_0.lt
        replace x6_0 := x6_0.below q7 x6_0.lt
        have x7_0 : Blk w7 (w6.heap.size) 38 #[.bool b6, .slice A6 n6 c6, .slice A'6 n'6 c'6, .bool d6, .slice D6 m6 e6, .slice D'6 m'6 e'6] := (blkAt _ _ _ (by simp)).below hb7 (by simp)
        have bw7 : Below w.heap.size w w7 := bw6.trans (q7.mono bw6.size)
        have lw7 : w6.heap.size + 1 ≤ w7.heap.size := by have := hb7.size; simp at this; omega
        clear hb7 q7 bw6
        obtain ⟨cx1_0_0, cx1_0_1, cx1_0_2, cx1_0_3⟩ := x1_0.c4
        obtain ⟨lx1_0_0, lx1_0_1, lx1_0_2, lx1_0_3⟩ := lts0 x1_0.lt
        obtain ⟨cx1_2_0, cx1_2_1, cx1_2_2, cx1_2_3, cx1_2_4, cx1_2_5⟩ := x1_2.c6
        obtain ⟨lx1_2_0, lx1_2_1, lx1_2_2, lx1_2_3⟩ := lts2 x1_2.lt
        go_wp2_with fail
        (with_reducible refine (u_Apply _ b A n c D m e x (⟨ra.q, x⟩) (6) ?_ b'' A'' n'' c'' D'' m'' e'' (rx.q) (6) ?_ bz Az nz cz Dz mz ez (ry.q) (6) ?_ ?_ ?_ ?_ ?_ ?_ ?_).mono ?_); (exact hTa); (exact hQx); (exact hQy); (first | omega | decide | assumption); (first | omega | decide | assumption); (first | omega | decide | assumption); (first | omega | decide | assumption); (first | omega | decide | assumption); (first | omega | decide | assumption); rintro e w8 ⟨b8, A8, n8, c8, A'8, n'8, c'8, d8, D8, m8, e8, D'8, m'8, e'8, rfl, h8, h'8, hb8⟩
        clear cx1_0_0 cx1_0_1 cx1_0_2 cx1_0_3 lx1_0_0 lx1_0_1 lx1_0_2 lx1_0_3 cx1_2_0 cx1_2_1 cx1_2_2 cx1_2_3 cx1_2_4 cx1_2_5 lx1_2_0 lx1_2_1 lx1_2_2 lx1_2_3
        have q8 : Below w7.heap.size w7 w8 := hb8
        replace Hra := Hra.belw q8
        replace Hrb := Hrb.belw q8
        replace hTa := hTa.belw q8
        replace hQx := hQx.belw q8
        replace hQy := hQy.belw q8
        replace h6 := h6.belw q8
        replace h'6 := h'6.belw q8
        replace x1_0 := x1_0.below q8 x1_0.lt
        replace x1_1 := x1_1.below q8 x1_1.lt
        replace x1_2 := x1_2.below q8 x1_2.lt
        replace x2_0 := x2_0.below q8 x2_0.lt
        replace x4_0 := x4_0.below q8 x4_0.lt
        replace x6_0 := x6_0.below q8 x6_0.lt
        replace x7_0 := x7_0.below q8 x7_0.lt
        have bw8 : Below w.heap.size w w8 := bw7.trans (q8.mono bw7.size)
        have lw8 : w7.heap.size ≤ w8.heap.size := q8.size
        clear hb8 q8 bw7
        obtain ⟨cx7_0_0, cx7_0_1, cx7_0_2, cx7_0_3, cx7_0_4, cx7_0_5⟩ := x7_0.c6
        obtain ⟨lx7_0_0, lx7_0_1, lx7_0_2, lx7_0_3⟩ := lts0 x7_0.lt
        go_wp2_with fail
        (with_reducible refine (g_cmp_e _ b6 A6 n6 c6 A'6 n'6 c'6 ((tapply (⟨ra.q, x⟩) (rx.q) (ry.q)).1) (8 * (6) + 9 + (6) + (6)) ?_ b8 A8 n8 c8 A'8 n'8 c'8 ((tapply (⟨ra.q, x⟩) (rx.q) (ry.q)).1) (8 * (6) + 9 + (6) + (6)) ?_ 0 ?_ ?_ ?_ ?_ ?_).mono ?_); (exact (h6.belw ((Below.refl _ _).alloc (Nat.le_refl _) _)).qz); (exact (h8.belw ((Below.refl _ _).alloc (Nat.le_refl _) _)).qz); (exact sub_sign.2 rfl); (first | omega | decide | assumption); (first | omega | decide | assumption); (first | omega | decide | assumption); (first | omega | decide | assumption); rintro e w9 ⟨rfl, hb9⟩
        clear cx7_0_0 cx7_0_1 cx7_0_2 cx7_0_3 cx7_0_4 cx7_0_5 lx7_0_0 lx7_0_1 lx7_0_2 lx7_0_3
        have q9 : Below w8.heap.size w8 w9 := ((Below.refl _ _).alloc (Nat.le_refl _) _).trans (hb9.mono (by simp))
        replace Hra := Hra.belw q9
        replace Hrb := Hrb.belw q9
        replace hTa := hTa.belw q9
        replace hQx := hQx.belw q9
        replace hQy := hQy.belw q9
        replace h6 := h6.belw q9
        replace h'6 := h'6.belw q9
        replace h8 := h8.belw q9
        replace h'8 := h'8.belw q9
        replace x1_0 := x1_0.below q9 x1_0.lt
        replace x1_1 := x1_1.below q9 x1_1.lt
        replace x1_2 := x1_2.below q9 x1_2.lt
        replace x2_0 := x2_0.below q9 x2_0.lt
        replace x4_0 := x4_0.below q9 x4_0.lt
        replace x6_0 := x6_0.below q9 x6_0.lt
        replace x7_0 := x7_0.below q9 x7_0.lt
        have x9_0 : Blk w9 (w8.heap.size) 38 #[.bool b8, .slice A8 n8 c8, .slice A'8 n'8 c'8, .bool d8, .slice D8 m8 e8, .slice D'8 m'8 e'8] := (blkAt _ _ _ (by simp)).below hb9 (by simp)
        have bw9 : Below w.heap.size w w9 := bw8.trans (q9.mono bw8.size)
        have lw9 : w8.heap.size + 1 ≤ w9.heap.size := by have := hb9.size; simp at this; omega
        clear hb9 q9 bw8
        obtain ⟨cx7_0_0, cx7_0_1, cx7_0_2, cx7_0_3, cx7_0_4, cx7_0_5⟩ := x7_0.c6
        obtain ⟨lx7_0_0, lx7_0_1, lx7_0_2, lx7_0_3⟩ := lts0 x7_0.lt
        obtain ⟨cx9_0_0, cx9_0_1, cx9_0_2, cx9_0_3, cx9_0_4, cx9_0_5⟩ := x9_0.c6
        obtain ⟨lx9_0_0, lx9_0_1, lx9_0_2, lx9_0_3⟩ := lts0 x9_0.lt
        go_wp2_with fail
        (with_reducible refine (g_cmp_e _ d6 D6 m6 e6 D'6 m'6 e'6 ((tapply (⟨ra.q, x⟩) (rx.q) (ry.q)).2) (8 * (6) + 9 + (6) + (6)) ?_ d8 D8 m8 e8 D'8 m'8 e'8 ((tapply (⟨ra.q, x⟩) (rx.q) (ry.q)).2) (8 * (6) + 9 + (6) + (6)) ?_ 0 ?_ ?_ ?_ ?_ ?_).mono ?_); (exact h'6.qz); (exact h'8.qz); (exact sub_sign.2 rfl); (first | omega | decide | assumption); (first | omega | decide | assumption); (first | omega | decide | assumption); (first | omega | decide | assumption); rintro e w10 ⟨rfl, hb10⟩
        clear cx7_0_0 cx7_0_1 cx7_0_2 cx7_0_3 cx7_0_4 cx7_0_5 lx7_0_0 lx7_0_1 lx7_0_2 lx7_0_3 cx9_0_0 cx9_0_1 cx9_0_2 cx9_0_3 cx9_0_4 cx9_0_5 lx9_0_0 lx9_0_1 lx9_0_2 lx9_0_3
        have q10 : Below w9.heap.size w9 w10 := hb10
        replace Hra := Hra.belw q10
        replace Hrb := Hrb.belw q10
        replace hTa := hTa.belw q10
        replace hQx := hQx.belw q10
        replace hQy := hQy.belw q10
        replace h6 := h6.belw q10
        replace h'6 := h'6.belw q10
        replace h8 := h8.belw q10
        replace h'8 := h'8.belw q10
        replace x1_0 := x1_0.below q10 x1_0.lt
        replace x1_1 := x1_1.below q10 x1_1.lt
        replace x1_2 := x1_2.below q10 x1_2.lt
        replace x2_0 := x2_0.below q10 x2_0.lt
        replace x4_0 := x4_0.below q10 x4_0.lt
        replace x6_0 := x6_0.below q10 x6_0.lt
        replace x7_0 := x7_0.below q10 x7_0.lt
        replace x9_0 := x9_0.below q10 x9_0.lt
        have bw10 : Below w.heap.size w w10 := bw9.trans (q10.mono bw9.size)
        have lw10 : w9.heap.size ≤ w10.heap.size := q10.size
        clear hb10 q10 bw9
        obtain ⟨cx1_1_0, cx1_1_1, cx1_1_2, cx1_1_3⟩ := x1_1.c4
        obtain ⟨lx1_1_0, lx1_1_1, lx1_1_2, lx1_1_3⟩ := lts1 x1_1.lt
        go_wp2_with fail
        (with_reducible refine (g_chk_v _ b' A' n' c' D' m' e' (rb) (6) ?_ x' 2 ?_ ?_ ?_).mono ?_); (exact Hrb); (exact if_neg (by rw [HBB.out]; decide)); (first | omega | decide | assumption); (first | omega | decide | assumption); rintro e w11 ⟨rfl, hb11⟩
        clear cx1_1_0 cx1_1_1 cx1_1_2 cx1_1_3 lx1_1_0 lx1_1_1 lx1_1_2 lx1_1_3
        have q11 : Below w10.heap.size w10 w11 := hb11
        replace Hra := Hra.belw q11
        replace Hrb := Hrb.belw q11
        replace hTa := hTa.belw q11
        replace hQx := hQx.belw q11
        replace hQy := hQy.belw q11
        replace h6 := h6.belw q11
        replace h'6 := h'6.belw q11
        replace h8 := h8.belw q11
        replace h'8 := h'8.belw q11
        replace x1_0 := x1_0.below q11 x1_0.lt
        replace x1_1 := x1_1.below q11 x1_1.lt
        replace x1_2 := x1_2.below q11 x1_2.lt
        replace x2_0 := x2_0.below q11 x2_0.lt
        replace x4_0 := x4_0.below q11 x4_0.lt
        replace x6_0 := x6_0.below q11 x6_0.lt
        replace x7_0 := x7_0.below q11 x7_0.lt
        replace x9_0 := x9_0.below q11 x9_0.lt
        have bw11 : Below w.heap.size w w11 := bw10.trans (q11.mono bw10.size)
        have lw11 : w10.heap.size ≤ w11.heap.size := q11.size
        clear hb11 q11 bw10
        go_wp2_with fail
        (with_reducible refine (b_num_err _).mono ?_); rintro e w12 ⟨rfl, hb12⟩
        have q12 : Below w11.heap.size w11 w12 := hb12
        replace Hra := Hra.belw q12
        replace Hrb := Hrb.belw q12
        replace hTa := hTa.belw q12
        replace hQx := hQx.belw q12
        replace hQy := hQy.belw q12
        replace h6 := h6.belw q12
        replace h'6 := h'6.belw q12
        replace h8 := h8.belw q12
        replace h'8 := h'8.belw q12
        replace x1_0 := x1_0.below q12 x1_0.lt
        replace x1_1 := x1_1.below q12 x1_1.lt
        replace x1_2 := x1_2.below q12 x1_2.lt
        replace x2_0 := x2_0.below q12 x2_0.lt
        replace x4_0 := x4_0.below q12 x4_0.lt
        replace x6_0 := x6_0.below q12 x6_0.lt
        replace x7_0 := x7_0.below q12 x7_0.lt
        replace x9_0 := x9_0.below q12 x9_0.lt
        have bw12 : Below w.heap.size w w12 := bw11.trans (q12.mono bw11.size)
        have lw12 : w11.heap.size ≤ w12.heap.size := q12.size
        clear hb12 q12 bw11
        go_wp2_with fail
        (with_reducible refine (b_num_err _).mono ?_); rintro e w13 ⟨rfl, hb13⟩
        have q13 : Below w12.heap.size w12 w13 := hb13
        replace Hra := Hra.belw q13
        replace Hrb := Hrb.belw q13
        replace hTa := hTa.belw q13
        replace hQx := hQx.belw q13
        replace hQy := hQy.belw q13
        replace h6 := h6.belw q13
        replace h'6 := h'6.belw q13
        replace h8 := h8.belw q13
        replace h'8 := h'8.belw q13
        replace x1_0 := x1_0.below q13 x1_0.lt
        replace x1_1 := x1_1.below q13 x1_1.lt
        replace x1_2 := x1_2.below q13 x1_2.lt
        replace x2_0 := x2_0.below q13 x2_0.lt
        replace x4_0 := x4_0.below q13 x4_0.lt
        replace x6_0 := x6_0.below q13 x6_0.lt
        replace x7_0 := x7_0.below q13 x7_0.lt
        replace x9_0 := x9_0.below q13 x9_0.lt
        have bw13 : Below w.heap.size w w13 := bw12.trans (q13.mono bw12.size)
        have lw13 : w12.heap.size ≤ w13.heap.size := q13.size
        clear hb13 q13 bw12
        go_wp2_with fail
        (with_reducible refine (b_num_err _).mono ?_); rintro e w14 ⟨rfl, hb14⟩
        have q14 : Below w13.heap.size w13 w14 := hb14
        replace Hra := Hra.belw q14
        replace Hrb := Hrb.belw q14
        replace hTa := hTa.belw q14
        replace hQx := hQx.belw q14
        replace hQy := hQy.belw q14
        replace h6 := h6.belw q14
        replace h'6 := h'6.belw q14
        replace h8 := h8.belw q14
        replace h'8 := h'8.belw q14
        replace x1_0 := x1_0.below q14 x1_0.lt
        replace x1_1 := x1_1.below q14 x1_1.lt
        replace x1_2 := x1_2.below q14 x1_2.lt
        replace x2_0 := x2_0.below q14 x2_0.lt
        replace x4_0 := x4_0.below q14 x4_0.lt
        replace x6_0 := x6_0.below q14 x6_0.lt
        replace x7_0 := x7_0.below q14 x7_0.lt
        replace x9_0 := x9_0.below q14 x9_0.lt
        have bw14 : Below w.heap.size w w14 := bw13.trans (q14.mono bw13.size)
        have lw14 : w13.heap.size ≤ w14.heap.size := q14.size
        clear hb14 q14 bw13
        go_wp2_with fail
        go_ret
        exact retB rfl bw14
    · have hba : accT ra x = false := by revert hca; cases accT ra x <;> simp
      have HBA := Lib.hid hba
      have HBAD := Lib.hid (show accT ra x = false ∨ accT rb x' = false from .inl hba)
      clear hca hba
      go_wp2_with fail
      (with_reducible refine (t_Add_bad _ 6 b A n c D m e ra ?_ b' A' n' c' D' m' e' rb ?_ x x' ?_ ?_ ?_).mono ?_); (exact Hra); (exact Hrb); (decide); (decide); (exact HBAD.out); rintro e w3 ⟨rfl, hb3⟩
      clear cx1_0_0 cx1_0_1 cx1_0_2 cx1_0_3 lx1_0_0 lx1_0_1 lx1_0_2 lx1_0_3 cx1_1_0 cx1_1_1 cx1_1_2 cx1_1_3 lx1_1_0 lx1_1_1 lx1_1_2 lx1_1_3
      have q3 : Below w2.heap.size w2 w3 := hb3
      replace Hra := Hra.belw q3
      replace Hrb := Hrb.belw q3
      replace Hrx := Hrx.belw q3
      replace Hry := Hry.belw q3
      replace x1_0 := x1_0.below q3 x1_0.lt
      replace x1_1 := x1_1.below q3 x1_1.lt
      replace x1_2 := x1_2.below q3 x1_2.lt
      replace x2_0 := x2_0.below q3 x2_0.lt
      have bw3 : Below w.heap.size w w3 := bw2.trans (q3.mono bw2.size)
      have lw3 : w2.heap.size ≤ w3.heap.size := q3.size
      clear hb3 q3 bw2
      obtain ⟨cx1_0_0, cx1_0_1, cx1_0_2, cx1_0_3⟩ := x1_0.c4
      obtain ⟨lx1_0_0, lx1_0_1, lx1_0_2, lx1_0_3⟩ := lts0 x1_0.lt
      obtain ⟨cx1_1_0, cx1_1_1, cx1_1_2, cx1_1_3⟩ := x1_1.c4
      obtain ⟨lx1_1_0, lx1_1_1, lx1_1_2, lx1_1_3⟩ := lts1 x1_1.lt
      go_wp2_with fail
      (with_reducible refine (t_Cmp_bad _ 6 b A n c D m e ra ?_ b' A' n' c' D' m' e' rb ?_ x x' ?_ ?_ ?_).mono ?_); (exact (Hra.belw ((Below.refl _ _).alloc (Nat.le_refl _) _))); (exact (Hrb.belw ((Below.refl _ _).alloc (Nat.le_refl _) _))); (decide); (decide); (exact HBAD.out); rintro e w4 ⟨rfl, hb4⟩
      clear cx1_0_0 cx1_0_1 cx1_0_2 cx1_0_3 lx1_0_0 lx1_0_1 lx1_0_2 lx1_0_3 cx1_1_0 cx1_1_1 cx1_1_2 cx1_1_3 lx1_1_0 lx1_1_1 lx1_1_2 lx1_1_3
      have q4 : Below w3.heap.size w3 w4 := ((Below.refl _ _).alloc (Nat.le_refl _) _).trans (hb4.mono (by simp))
      replace Hra := Hra.belw q4
      replace Hrb := Hrb.belw q4
      replace Hrx := Hrx.belw q4
      replace Hry := Hry.belw q4
      replace x1_0 := x1_0.below q4 x1_0.lt
      replace x1_1 := x1_1.below q4 x1_1.lt
      replace x1_2 := x1_2.below q4 x1_2.lt
      replace x2_0 := x2_0.below q4 x2_0.lt
      have x4_0 : Blk w4 (w3.heap.size) 26 #[.bool false, .slice none 0 0, .slice none 0 0, .bool false] := (blkAt _ _ _ (by simp)).below hb4 (by simp)
      have bw4 : Below w.heap.size w w4 := bw3.trans (q4.mono bw3.size)
      have lw4 : w3.heap.size + 1 ≤ w4.heap.size := by have := hb4.size; simp at this; omega
      clear hb4 q4 bw3
      obtain ⟨cx1_0_0, cx1_0_1, cx1_0_2, cx1_0_3⟩ := x1_0.c4
      obtain ⟨lx1_0_0, lx1_0_1, lx1_0_2, lx1_0_3⟩ := lts0 x1_0.lt
      obtain ⟨cx1_1_0, cx1_1_1, cx1_1_2, cx1_1_3⟩ := x1_1.c4
      obtain ⟨lx1_1_0, lx1_1_1, lx1_1_2, lx1_1_3⟩ := lts1 x1_1.lt
      go_wp2_with fail
      (with_reducible refine (t_Between_bad _ 6 b A n c D m e ra ?_ b' A' n' c' D' m' e' rb ?_ x x' ?_ ?_ ?_).mono ?_); (exact Hra); (exact Hrb); (decide); (decide); (exact HBAD.out); rintro e w5 ⟨rfl, hb5⟩
      clear cx1_0_0 cx1_0_1 cx1_0_2 cx1_0_3 lx1_0_0 lx1_0_1 lx1_0_2 lx1_0_3 cx1_1_0 cx1_1_1 cx1_1_2 cx1_1_3 lx1_1_0 lx1_1_1 lx1_1_2 lx1_1_3
      have q5 : Below w4.heap.size w4 w5 := hb5
      replace Hra := Hra.belw q5
      replace Hrb := Hrb.belw q5
      replace Hrx := Hrx.belw q5
      replace Hry := Hry.belw q5
      replace x1_0 := x1_0.below q5 x1_0.lt
      replace x1_1 := x1_1.below q5 x1_1.lt
      replace x1_2 := x1_2.below q5 x1_2.lt
      replace x2_0 := x2_0.below q5 x2_0.lt
      replace x4_0 := x4_0.below q5 x4_0.lt
      have bw5 : Below w.heap.size w w5 := bw4.trans (q5.mono bw4.size)
      have lw5 : w4.heap.size ≤ w5.heap.size := q5.size
      clear hb5 q5 bw4
      obtain ⟨cx1_0_0, cx1_0_1, cx1_0_2, cx1_0_3⟩ := x1_0.c4
      obtain ⟨lx1_0_0, lx1_0_1, lx1_0_2, lx1_0_3⟩ := lts0 x1_0.lt
      obtain ⟨cx1_2_0, cx1_2_1, cx1_2_2, cx1_2_3, cx1_2_4, cx1_2_5⟩ := x1_2.c6
      obtain ⟨lx1_2_0, lx1_2_1, lx1_2_2, lx1_2_3⟩ := lts2 x1_2.lt
      go_wp2_with fail
      have HBAD0 := HBAD
      clear HBAD
      have HBAD := HBA
      (with_reducible refine (t_Apply_bad _ 6 b A n c D m e ra ?_ x b'' A'' n'' c'' D'' m'' e'' bz Az nz cz Dz mz ez ?_ ?_ ?_).mono ?_); (exact (Hra.belw ((Below.refl _ _).alloc (Nat.le_refl _) _))); (decide); (decide); (exact HBAD.out); rintro e w6 ⟨rfl, hb6⟩
      clear cx1_0_0 cx1_0_1 cx1_0_2 cx1_0_3 lx1_0_0 lx1_0_1 lx1_0_2 lx1_0_3 cx1_2_0 cx1_2_1 cx1_2_2 cx1_2_3 cx1_2_4 cx1_2_5 lx1_2_0 lx1_2_1 lx1_2_2 lx1_2_3
      have q6 : Below w5.heap.size w5 w6 := ((Below.refl _ _).alloc (Nat.le_refl _) _).trans (hb6.mono (by simp))
      replace Hra := Hra.belw q6
      replace Hrb := Hrb.belw q6
      replace Hrx := Hrx.belw q6
      replace Hry := Hry.belw q6
      replace x1_0 := x1_0.below q6 x1_0.lt
      replace x1_1 := x1_1.below q6 x1_1.lt
      replace x1_2 := x1_2.below q6 x1_2.lt
      replace x2_0 := x2_0.below q6 x2_0.lt
      replace x4_0 := x4_0.below q6 x4_0.lt
      have x6_0 : Blk w6 (w5.heap.size) 26 #[.bool false, .slice none 0 0, .slice none 0 0, .bool false] := (blkAt _ _ _ (by simp)).below hb6 (by simp)
      have bw6 : Below w.heap.size w w6 := bw5.trans (q6.mono bw5.size)
      have lw6 : w5.heap.size + 1 ≤ w6.heap.size := by have := hb6.size; simp at this; omega
      clear hb6 q6 bw5
      obtain ⟨cx1_0_0, cx1_0_1, cx1_0_2, cx1_0_3⟩ := x1_0.c4
      obtain ⟨lx1_0_0, lx1_0_1, lx1_0_2, lx1_0_3⟩ := lts0 x1_0.lt
      go_wp2_with fail
      (with_reducible refine (g_chk_v _ b A n c D m e (ra) (6) ?_ x 2 ?_ ?_ ?_).mono ?_); (exact (Hra.belw ((Below.refl _ _).alloc (Nat.le_refl _) _))); (exact if_neg (by rw [HBA.out]; decide)); (first | omega | decide | assumption); (first | omega | decide | assumption); rintro e w7 ⟨rfl, hb7⟩
      clear cx1_0_0 cx1_0_1 cx1_0_2 cx1_0_3 lx1_0_0 lx1_0_1 lx1_0_2 lx1_0_3
      have q7 : Below w6.heap.size w6 w7 := ((Below.refl _ _).alloc (Nat.le_refl _) _).trans (hb7.mono (by simp))
      replace Hra := Hra.belw q7
      replace Hrb := Hrb.belw q7
      replace Hrx := Hrx.belw q7
      replace Hry := Hry.belw q7
      replace x1_0 := x1_0.below q7 x1_0.lt
      replace x1_1 := x1_1.below q7 x1_1.lt
      replace x1_2 := x1_2.below q7 x1_2.lt
      replace x2_0 := x2_0.below q7 x2_0.lt
      replace x4_0 := x4_0.below q7 x4_0.lt
      replace x6_0 := x6_0.below q7 x6_0.lt
      have x7_0 : Blk w7 (w6.heap.size) 38 #[.bool false, .slice none 0 0, .slice none 0 0, .bool false, .slice none 0 0, .slice none 0 0] := (blkAt _ _ _ (by simp)).below hb7 (by simp)
      have bw7 : Below w.heap.size w w7 := bw6.trans (q7.mono bw6.size)
      have lw7 : w6.heap.size + 1 ≤ w7.heap.size := by have := hb7.size; simp at this; omega
      clear hb7 q7 bw6
      go_wp2_with fail
      (with_reducible refine (b_num_err _).mono ?_); rintro e w8 ⟨rfl, hb8⟩
      have q8 : Below w7.heap.size w7 w8 := hb8
      replace Hra := Hra.belw q8
      replace Hrb := Hrb.belw q8
      replace Hrx := Hrx.belw q8
      replace Hry := Hry.belw q8
      replace x1_0 := x1_0.below q8 x1_0.lt
      replace x1_1 := x1_1.below q8 x1_1.lt
      replace x1_2 := x1_2.below q8 x1_2.lt
      replace x2_0 := x2_0.below q8 x2_0.lt
      replace x4_0 := x4_0.below q8 x4_0.lt
      replace x6_0 := x6_0.below q8 x6_0.lt
      replace x7_0 := x7_0.below q8 x7_0.lt
      have bw8 : Below w.heap.size w w8 := bw7.trans (q8.mono bw7.size)
      have lw8 : w7.heap.size ≤ w8.heap.size := q8.size
      clear hb8 q8 bw7
      go_wp2_with fail
      (with_reducible refine (b_num_err _).mono ?_); rintro e w9 ⟨rfl, hb9⟩
      have q9 : Below w8.heap.size w8 w9 := hb9
      replace Hra := Hra.belw q9
      replace Hrb := Hrb.belw q9
      replace Hrx := Hrx.belw q9
      replace Hry := Hry.belw q9
      replace x1_0 := x1_0.below q9 x1_0.lt
      replace x1_1 := x1_1.below q9 x1_1.lt
      replace x1_2 := x1_2.below q9 x1_2.lt
      replace x2_0 := x2_0.below q9 x2_0.lt
      replace x4_0 := x4_0.below q9 x4_0.lt
      replace x6_0 := x6_0.below q9 x6_0.lt
      replace x7_0 := x7_0.below q9 x7_0.lt
      have bw9 : Below w.heap.size w w9 := bw8.trans (q9.mono bw8.size)
      have lw9 : w8.heap.size ≤ w9.heap.size := q9.size
      clear hb9 q9 bw8
      go_wp2_with fail
      (with_reducible refine (b_num_err _).mono ?_); rintro e w10 ⟨rfl, hb10⟩
      have q10 : Below w9.heap.size w9 w10 := hb10
      replace Hra := Hra.belw q10
      replace Hrb := Hrb.belw q10
      replace Hrx := Hrx.belw q10
      replace Hry := Hry.belw q10
      replace x1_0 := x1_0.below q10 x1_0.lt
      replace x1_1 := x1_1.below q10 x1_1.lt
      replace x1_2 := x1_2.below q10 x1_2.lt
      replace x2_0 := x2_0.below q10 x2_0.lt
      replace x4_0 := x4_0.below q10 x4_0.lt
      replace x6_0 := x6_0.below q10 x6_0.lt
      replace x7_0 := x7_0.below q10 x7_0.lt
      have bw10 : Below w.heap.size w w10 := bw9.trans (q10.mono bw9.size)
      have lw10 : w9.heap.size ≤ w10.heap.size := q10.size
      clear hb10 q10 bw9
      go_wp2_with fail
      (with_reducible refine (b_num_err _).mono ?_); rintro e w11 ⟨rfl, hb11⟩
      have q11 : Below w10.heap.size w10 w11 := hb11
      replace Hra := Hra.belw q11
      replace Hrb := Hrb.belw q11
      replace Hrx := Hrx.belw q11
      replace Hry := Hry.belw q11
      replace x1_0 := x1_0.below q11 x1_0.lt
      replace x1_1 := x1_1.below q11 x1_1.lt
      replace x1_2 := x1_2.below q11 x1_2.lt
      replace x2_0 := x2_0.below q11 x2_0.lt
      replace x4_0 := x4_0.below q11 x4_0.lt
      replace x6_0 := x6_0.below q11 x6_0.lt
      replace x7_0 := x7_0.below q11 x7_0.lt
      have bw11 : Below w.heap.size w w11 := bw10.trans (q11.mono bw10.size)
      have lw11 : w10.heap.size ≤ w11.heap.size := q11.size
      clear hb11 q11 bw10
      obtain ⟨cx4_0_0, cx4_0_1, cx4_0_2, cx4_0_3⟩ := x4_0.c4
      obtain ⟨lx4_0_0, lx4_0_1, lx4_0_2, lx4_0_3⟩ := lts0 x4_0.lt
      obtain ⟨cx6_0_0, cx6_0_1, cx6_0_2, cx6_0_3⟩ := x6_0.c4
      obtain ⟨lx6_0_0, lx6_0_1, lx6_0_2, lx6_0_3⟩ := lts0 x6_0.lt
      obtain ⟨cx7_0_0, cx7_0_1, cx7_0_2, cx7_0_3, cx7_0_4, cx7_0_5⟩ := x7_0.c6
      obtain ⟨lx7_0_0, lx7_0_1, lx7_0_2, lx7_0_3⟩ := lts0 x7_0.lt
      go_wp2_with fail
      go_ret
      exact retB rfl bw11
end Go.Proofs.YtmneloabphplmaaGreat

namespace Go.Proofs.YtmneloabphplmaaGreat
open Go Go.RowKit Bn Go.ChangeShapes Go.WideShapes
theorem own_knob : ownKnob Tryz.prog.godebug = none := by kernel_rfl
theorem laid_out : laidOutB Tryz.prog = true := by kernel_rfl
set_option maxRecDepth 100000 in
theorem pairs_lifted (os : Os) (started : os.Started) (H : Type) (enc : TypeId × Value → H) :
    ReturnsInHanded {} Tryz.checked os 4 .any (Rows.turnPairsSpec.pre6 enc Tryz.prog Tryz.f4 Rows.turnPairsRow.domain false) (Rows.turnPairsSpec.post enc Tryz.prog Tryz.f4 false true false false) := by
  refine returnsInHanded_of_change (C := Tryz.checked) own_knob started (by kernel_rfl) Tryz.func4
    (ChangeSpec.witness6 (enc := enc) (C := Tryz.checked) false ⟨#[], #[.agg #[.bool false, .slice none 0 0, .slice none 0 0, .bool false], .agg #[.bool false, .slice none 0 0, .slice none 0 0, .bool false], .agg #[.bool false, .slice none 0 0, .slice none 0 0, .bool false, .slice none 0 0, .slice none 0 0]], []⟩ 8 (by kernel_rfl) (by kernel_rfl) (by kernel_rfl) (by kernel_rfl)) ?_
  intro W base args ds gs before hval0 hW _ _
  have hval : ∀ (j : Nat) t v, Tryz.f4.params[j]? = some t → args[j]? = some v → Value.okWide Tryz.prog W .any base t v := hval0
  have hW' := hW
  obtain ⟨p, q, hA0, hV, rfl, hfz, hnd⟩ := hW
  have hA : DataW.TrodAll enc Tryz.prog W 0 (fun _ => true) true Tryz.f4.params.toList args.toList ds p := hA0
  rw [Tryz.params4] at hA hval
  obtain ⟨v0, v1, v2, d0, d1, d2, p0, p1, p2, rfl, rfl, rfl, h0, h1, h2⟩ := trodAll_three hA
  obtain ⟨rfl, rfl⟩ := trodVars_none hV
  obtain ⟨b, A, n, c, D, m, e, ra, k, x, rfl, Ha⟩ := turn_open (hval 0 _ v0 rfl rfl) h0
  obtain ⟨b', A', n', c', D', m', e', rb, k', x', rfl, Hb⟩ := turn_open (hval 1 _ v1 rfl rfl) h1
  obtain ⟨b2, A2, n2, c2, D2, m2, e2, rx, k2, b3, A3, n3, c3, D3, m3, e3, ry, k3, rfl, Hx, Hy⟩ := place_open (hval 2 _ v2 rfl rfl) h2
  refine (l_TurnPairs W b A n c D m e ra k Ha b' A' n' c' D' m' e' rb k' Hb b2 A2 n2 c2 D2 m2 e2 rx k2 Hx b3 A3 n3 c3 D3 m3 e3 ry k3 Hy x x').mono fun e W' ⟨he, hb⟩ => ?_
  subst he
  exact ⟨_, rfl, law_post laid_out Tryz.underlying4 hW' rfl rfl (by kernel_rfl) rfl rfl rfl hb⟩
theorem pairs_holds : Rows.TurnPairsSaid :=
  OpenClaim.holds_of_wide 4 Tryz.f4 rfl rfl rfl rfl rfl rfl rfl ⟨rfl, rfl, rfl, rfl, rfl⟩ rfl rfl rfl rfl rfl (by kernel_rfl) Tryz.func4 (by kernel_rfl)
    (of_decide_eq_true (by kernel_rfl)) (by unfold Func.isWrapper; rw [if_neg (of_decide_eq_false (by kernel_rfl))]; exact ⟨rfl, rfl⟩)
    (fun os started H enc _ => pairs_lifted os started H enc)
end Go.Proofs.YtmneloabphplmaaGreat
