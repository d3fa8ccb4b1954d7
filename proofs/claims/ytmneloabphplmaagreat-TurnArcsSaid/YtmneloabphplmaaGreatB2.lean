/- TurnArcs: for any three turns the program says whether the third one is in the arc as the reference does, or returns the first error; for every input the law returns true. No condition. -/
import Derived.Deep.RegionHeld3
import Derived.Deep.DrawnRows
import Derived.Test.YtmneloabphplmaaGreatB1
set_option linter.unusedVariables false
/- Walks: whether a turn lies inside. -/
namespace Go.Proofs.YtmneloabphplmaaGreat
open Go Go.RowKit Bn
attribute [local go_sem ↓] Go.wp_at_zero Go.wp_at_succ
theorem t_compare_e (w : World) (b : Bool) (A : Option Addr) (n c : Nat) (D : Option Addr) (m e : Nat) (x : Bool) (t : TN) (k : Nat) (h : TK w b A n c D m e x t k) (b' : Bool) (A' : Option Addr) (n' c' : Nat) (D' : Option Addr) (m' e' : Nat) (x' : Bool) (t' : TN) (k' : Nat) (h' : TK w b' A' n' c' D' m' e' x' t' k') (s : Int) (hs : tcmp t t' = s) (h0 : 0 < k) (hk : k ≤ 1000000) (h0' : 0 < k') (hk' : k' ≤ 1000000) : Calls Tryz.prog 26 #[.agg #[.bool b, .slice A n c, .slice D m e, .bool x], .agg #[.bool b', .slice A' n' c', .slice D' m' e', .bool x']] w (RetV w (.int .i64 s)) := by subst hs; exact t_compare w b A n c D m e x t k h b' A' n' c' D' m' e' x' t' k' h' h0 hk h0' hk'
set_option maxRecDepth 100000 in
set_option maxHeartbeats 4000000 in
/-- turn.Inside -/
theorem t_Inside_eq (w : World) (b : Bool) (A : Option Addr) (n c : Nat) (D : Option Addr) (m e : Nat) (x : Bool) (t : TN) (k : Nat) (h : TK w b A n c D m e x t k) (b' : Bool) (A' : Option Addr) (n' c' : Nat) (D' : Option Addr) (m' e' : Nat) (x' : Bool) (t' : TN) (k' : Nat) (h' : TK w b' A' n' c' D' m' e' x' t' k') (b'' : Bool) (A'' : Option Addr) (n'' c'' : Nat) (D'' : Option Addr) (m'' e'' : Nat) (x'' : Bool) (t'' : TN) (k'' : Nat) (h'' : TK w b'' A'' n'' c'' D'' m'' e'' x'' t'' k'') (h0 : 0 < k) (hk : k ≤ 200000) (h0' : 0 < k') (hk' : k' ≤ 200000) (h0'' : 0 < k'') (hk'' : k'' ≤ 200000) (hs : tcmp t t' = 0) :
    Calls Tryz.prog 7 #[.agg #[.bool b, .slice A n c, .slice D m e, .bool x], .agg #[.bool b', .slice A' n' c', .slice D' m' e', .bool x'], .agg #[.bool b'', .slice A'' n'' c'', .slice D'' m'' e'', .bool x'']] w (RetV w (.tuple #[.bool true, .nilIface])) := by
  have HS := Lib.hid hs
  clear hs
  go_enter Tryz.func7, Tryz.ntmps7
  go_wp2_with fail
  (with_reducible refine (t_checkAll _ (w.heap.size + 1 + 1 + 1) 3 ((k) + (k') + (k'')) ?_ ?_ ?_ ?_).mono ?_); (exact ts3 (blkAt _ _ _ (by simp)) ((h.belw (((((Below.refl _ _).alloc (Nat.le_refl _) _).alloc (by simp) _).alloc (by simp <;> omega) _).alloc (by simp <;> omega) _)).mono (by omega)) ((h'.belw (((((Below.refl _ _).alloc (Nat.le_refl _) _).alloc (by simp) _).alloc (by simp <;> omega) _).alloc (by simp <;> omega) _)).mono (by omega)) ((h''.belw (((((Below.refl _ _).alloc (Nat.le_refl _) _).alloc (by simp) _).alloc (by simp <;> omega) _).alloc (by simp <;> omega) _)).mono (by omega))); (decide); (omega); (omega); rintro e w1 ⟨rfl, hb1⟩
  have q1 : Below w.heap.size w w1 := (((((Below.refl _ _).alloc (Nat.le_refl _) _).alloc (by simp) _).alloc (by simp <;> omega) _).alloc (by simp <;> omega) _).trans (hb1.mono (by simp <;> omega))
  replace h := h.belw q1
  replace h' := h'.belw q1
  replace h'' := h''.belw q1
  have x1_0 : Blk w1 (w.heap.size) 26 #[.bool b, .slice A n c, .slice D m e, .bool x] := ((((blkAt _ _ _ (by simp)).alloc _).alloc _).alloc _).below hb1 (by simp <;> omega)
  have x1_1 : Blk w1 (w.heap.size + 1) 26 #[.bool b', .slice A' n' c', .slice D' m' e', .bool x'] := (((blkAt _ _ _ (by simp)).alloc _).alloc _).below hb1 (by simp <;> omega)
  have x1_2 : Blk w1 (w.heap.size + 1 + 1) 26 #[.bool b'', .slice A'' n'' c'', .slice D'' m'' e'', .bool x''] := ((blkAt _ _ _ (by simp)).alloc _).below hb1 (by simp <;> omega)
  have x1_3 : Blk w1 (w.heap.size + 1 + 1 + 1) 26 #[.bool b, .slice A n c, .slice D m e, .bool x, .bool b', .slice A' n' c', .slice D' m' e', .bool x', .bool b'', .slice A'' n'' c'', .slice D'' m'' e'', .bool x''] := (blkAt _ _ _ (by simp)).below hb1 (by simp)
  have bw1 : Below w.heap.size w w1 := (brefl w).trans (q1.mono (brefl w).size)
  have lw1 : w.heap.size + 4 ≤ w1.heap.size := by have := hb1.size; simp at this; omega
  clear hb1 q1
  obtain ⟨cx1_0_0, cx1_0_1, cx1_0_2, cx1_0_3⟩ := x1_0.c4
  obtain ⟨lx1_0_0, lx1_0_1, lx1_0_2, lx1_0_3⟩ := lts0 x1_0.lt
  obtain ⟨cx1_1_0, cx1_1_1, cx1_1_2, cx1_1_3⟩ := x1_1.c4
  obtain ⟨lx1_1_0, lx1_1_1, lx1_1_2, lx1_1_3⟩ := lts1 x1_1.lt
  go_wp2_with fail
  (with_reducible refine (t_compare_e _ b A n c D m e x (t) (k) ?_ b' A' n' c' D' m' e' x' (t') (k') ?_ (0) ?_ ?_ ?_ ?_ ?_).mono ?_); (exact h); (exact h'); (exact HS.out); (first | omega | decide | assumption); (first | omega | decide | assumption); (first | omega | decide | assumption); (first | omega | decide | assumption); rintro e w2 ⟨rfl, hb2⟩
  clear cx1_0_0 cx1_0_1 cx1_0_2 cx1_0_3 lx1_0_0 lx1_0_1 lx1_0_2 lx1_0_3 cx1_1_0 cx1_1_1 cx1_1_2 cx1_1_3 lx1_1_0 lx1_1_1 lx1_1_2 lx1_1_3
  have q2 : Below w1.heap.size w1 w2 := hb2
  replace h := h.belw q2
  replace h' := h'.belw q2
  replace h'' := h''.belw q2
  replace x1_0 := x1_0.below q2 x1_0.lt
  replace x1_1 := x1_1.below q2 x1_1.lt
  replace x1_2 := x1_2.below q2 x1_2.lt
  replace x1_3 := x1_3.below q2 x1_3.lt
  have bw2 : Below w.heap.size w w2 := bw1.trans (q2.mono bw1.size)
  have lw2 : w1.heap.size ≤ w2.heap.size := q2.size
  clear hb2 q2 bw1
  go_wp2_with fail
  refine bodyPost_ret (v := .tuple #[.bool true, .nilIface]) (by simp [results, Tryz.results7, go_sem, *] <;> first | rfl | exact ⟨rfl, rfl⟩) rfl ?_
  exact ⟨rfl, bw2⟩
set_option maxRecDepth 100000 in
set_option maxHeartbeats 4000000 in
/-- turn.Inside -/
theorem t_Inside_ne (w : World) (b : Bool) (A : Option Addr) (n c : Nat) (D : Option Addr) (m e : Nat) (x : Bool) (t : TN) (k : Nat) (h : TK w b A n c D m e x t k) (b' : Bool) (A' : Option Addr) (n' c' : Nat) (D' : Option Addr) (m' e' : Nat) (x' : Bool) (t' : TN) (k' : Nat) (h' : TK w b' A' n' c' D' m' e' x' t' k') (b'' : Bool) (A'' : Option Addr) (n'' c'' : Nat) (D'' : Option Addr) (m'' e'' : Nat) (x'' : Bool) (t'' : TN) (k'' : Nat) (h'' : TK w b'' A'' n'' c'' D'' m'' e'' x'' t'' k'') (h0 : 0 < k) (hk : k ≤ 200000) (h0' : 0 < k') (hk' : k' ≤ 200000) (h0'' : 0 < k'') (hk'' : k'' ≤ 200000) (s s1 : Int) (hs : tcmp t t' = s) (hn : s ≠ 0) (hs1 : tcmp (tadd t'' (tneg t)) (tadd t' (tneg t)) = s1) :
    Calls Tryz.prog 7 #[.agg #[.bool b, .slice A n c, .slice D m e, .bool x], .agg #[.bool b', .slice A' n' c', .slice D' m' e', .bool x'], .agg #[.bool b'', .slice A'' n'' c'', .slice D'' m'' e'', .bool x'']] w (RetV w (.tuple #[.bool (decide (s1 ≤ 0)), .nilIface])) := by
  have HS := Lib.hid hs
  have HS1 := Lib.hid hs1
  have e0 : ((s : Int) == 0) = false := by simp; exact hn
  clear hs hs1 hn
  go_enter Tryz.func7, Tryz.ntmps7
  go_wp2_with fail
  (with_reducible refine (t_checkAll _ (w.heap.size + 1 + 1 + 1) 3 ((k) + (k') + (k'')) ?_ ?_ ?_ ?_).mono ?_); (exact ts3 (blkAt _ _ _ (by simp)) ((h.belw (((((Below.refl _ _).alloc (Nat.le_refl _) _).alloc (by simp) _).alloc (by simp <;> omega) _).alloc (by simp <;> omega) _)).mono (by omega)) ((h'.belw (((((Below.refl _ _).alloc (Nat.le_refl _) _).alloc (by simp) _).alloc (by simp <;> omega) _).alloc (by simp <;> omega) _)).mono (by omega)) ((h''.belw (((((Below.refl _ _).alloc (Nat.le_refl _) _).alloc (by simp) _).alloc (by simp <;> omega) _).alloc (by simp <;> omega) _)).mono (by omega))); (decide); (omega); (omega); rintro e w1 ⟨rfl, hb1⟩
  have q1 : Below w.heap.size w w1 := (((((Below.refl _ _).alloc (Nat.le_refl _) _).alloc (by simp) _).alloc (by simp <;> omega) _).alloc (by simp <;> omega) _).trans (hb1.mono (by simp <;> omega))
  replace h := h.belw q1
  replace h' := h'.belw q1
  replace h'' := h''.belw q1
  have x1_0 : Blk w1 (w.heap.size) 26 #[.bool b, .slice A n c, .slice D m e, .bool x] := ((((blkAt _ _ _ (by simp)).alloc _).alloc _).alloc _).below hb1 (by simp <;> omega)
  have x1_1 : Blk w1 (w.heap.size + 1) 26 #[.bool b', .slice A' n' c', .slice D' m' e', .bool x'] := (((blkAt _ _ _ (by simp)).alloc _).alloc _).below hb1 (by simp <;> omega)
  have x1_2 : Blk w1 (w.heap.size + 1 + 1) 26 #[.bool b'', .slice A'' n'' c'', .slice D'' m'' e'', .bool x''] := ((blkAt _ _ _ (by simp)).alloc _).below hb1 (by simp <;> omega)
  have x1_3 : Blk w1 (w.heap.size + 1 + 1 + 1) 26 #[.bool b, .slice A n c, .slice D m e, .bool x, .bool b', .slice A' n' c', .slice D' m' e', .bool x', .bool b'', .slice A'' n'' c'', .slice D'' m'' e'', .bool x''] := (blkAt _ _ _ (by simp)).below hb1 (by simp)
  have bw1 : Below w.heap.size w w1 := (brefl w).trans (q1.mono (brefl w).size)
  have lw1 : w.heap.size + 4 ≤ w1.heap.size := by have := hb1.size; simp at this; omega
  clear hb1 q1
  obtain ⟨cx1_0_0, cx1_0_1, cx1_0_2, cx1_0_3⟩ := x1_0.c4
  obtain ⟨lx1_0_0, lx1_0_1, lx1_0_2, lx1_0_3⟩ := lts0 x1_0.lt
  obtain ⟨cx1_1_0, cx1_1_1, cx1_1_2, cx1_1_3⟩ := x1_1.c4
  obtain ⟨lx1_1_0, lx1_1_1, lx1_1_2, lx1_1_3⟩ := lts1 x1_1.lt
  go_wp2_with fail
  (with_reducible refine (t_compare_e _ b A n c D m e x (t) (k) ?_ b' A' n' c' D' m' e' x' (t') (k') ?_ (s) ?_ ?_ ?_ ?_ ?_).mono ?_); (exact h); (exact h'); (exact HS.out); (first | omega | decide | assumption); (first | omega | decide | assumption); (first | omega | decide | assumption); (first | omega | decide | assumption); rintro e w2 ⟨rfl, hb2⟩
  clear cx1_0_0 cx1_0_1 cx1_0_2 cx1_0_3 lx1_0_0 lx1_0_1 lx1_0_2 lx1_0_3 cx1_1_0 cx1_1_1 cx1_1_2 cx1_1_3 lx1_1_0 lx1_1_1 lx1_1_2 lx1_1_3
  have q2 : Below w1.heap.size w1 w2 := hb2
  replace h := h.belw q2
  replace h' := h'.belw q2
  replace h'' := h''.belw q2
  replace x1_0 := x1_0.below q2 x1_0.lt
  replace x1_1 := x1_1.below q2 x1_1.lt
  replace x1_2 := x1_2.below q2 x1_2.lt
  replace x1_3 := x1_3.below q2 x1_3.lt
  have bw2 : Below w.heap.size w w2 := bw1.trans (q2.mono bw1.size)
  have lw2 : w1.heap.size ≤ w2.heap.size := q2.size
  clear hb2 q2 bw1
  obtain ⟨cx1_0_0, cx1_0_1, cx1_0_2, cx1_0_3⟩ := x1_0.c4
  obtain ⟨lx1_0_0, lx1_0_1, lx1_0_2, lx1_0_3⟩ := lts0 x1_0.lt
  go_wp2_with fail
  (with_reducible refine (t_neg _ b A n c D m e x (t) (k) ?_ ?_ ?_).mono ?_); (exact h); (first | omega | decide | assumption); (first | omega | decide | assumption); rintro e w3 ⟨b3, A3, n3, c3, A'3, n'3, c'3, x3, rfl, h3, hb3⟩
  clear cx1_0_0 cx1_0_1 cx1_0_2 cx1_0_3 lx1_0_0 lx1_0_1 lx1_0_2 lx1_0_3
  have q3 : Below w2.heap.size w2 w3 := hb3
  replace h := h.belw q3
  replace h' := h'.belw q3
  replace h'' := h''.belw q3
  replace x1_0 := x1_0.below q3 x1_0.lt
  replace x1_1 := x1_1.below q3 x1_1.lt
  replace x1_2 := x1_2.below q3 x1_2.lt
  replace x1_3 := x1_3.below q3 x1_3.lt
  have bw3 : Below w.heap.size w w3 := bw2.trans (q3.mono bw2.size)
  have lw3 : w2.heap.size ≤ w3.heap.size := q3.size
  clear hb3 q3 bw2
  go_wp2_with fail
  have p4 : Kp w3 (w3.alloc (.cells #[.bool b3, .slice A3 n3 c3, .slice A'3 n'3 c'3, .bool x3] 26)) := ((Kp.refl w3).alloc (.cells #[.bool b3, .slice A3 n3 c3, .slice A'3 n'3 c'3, .bool x3] 26))
  have bw4 : Below w.heap.size w (w3.alloc (.cells #[.bool b3, .slice A3 n3 c3, .slice A'3 n'3 c'3, .bool x3] 26)) := (bw3.alloc (by first | omega | (simp <;> omega)) (.cells #[.bool b3, .slice A3 n3 c3, .slice A'3 n'3 c'3, .bool x3] 26))
  have x4_0 : Blk (w3.alloc (.cells #[.bool b3, .slice A3 n3 c3, .slice A'3 n'3 c'3, .bool x3] 26)) (w3.heap.size) 26 #[.bool b3, .slice A3 n3 c3, .slice A'3 n'3 c'3, .bool x3] := (blkAt _ _ _ (by simp))
  replace x1_0 : Blk (w3.alloc (.cells #[.bool b3, .slice A3 n3 c3, .slice A'3 n'3 c'3, .bool x3] 26)) (w.heap.size) 26 #[.bool b, .slice A n c, .slice D m e, .bool x] := (x1_0.alloc (.cells #[.bool b3, .slice A3 n3 c3, .slice A'3 n'3 c'3, .bool x3] 26))
  replace x1_1 : Blk (w3.alloc (.cells #[.bool b3, .slice A3 n3 c3, .slice A'3 n'3 c'3, .bool x3] 26)) (w.heap.size + 1) 26 #[.bool b', .slice A' n' c', .slice D' m' e', .bool x'] := (x1_1.alloc (.cells #[.bool b3, .slice A3 n3 c3, .slice A'3 n'3 c'3, .bool x3] 26))
  replace x1_2 : Blk (w3.alloc (.cells #[.bool b3, .slice A3 n3 c3, .slice A'3 n'3 c'3, .bool x3] 26)) (w.heap.size + 1 + 1) 26 #[.bool b'', .slice A'' n'' c'', .slice D'' m'' e'', .bool x''] := (x1_2.alloc (.cells #[.bool b3, .slice A3 n3 c3, .slice A'3 n'3 c'3, .bool x3] 26))
  replace x1_3 : Blk (w3.alloc (.cells #[.bool b3, .slice A3 n3 c3, .slice A'3 n'3 c'3, .bool x3] 26)) (w.heap.size + 1 + 1 + 1) 26 #[.bool b, .slice A n c, .slice D m e, .bool x, .bool b', .slice A' n' c', .slice D' m' e', .bool x', .bool b'', .slice A'' n'' c'', .slice D'' m'' e'', .bool x''] := (x1_3.alloc (.cells #[.bool b3, .slice A3 n3 c3, .slice A'3 n'3 c'3, .bool x3] 26))
  have lw4 : w3.heap.size + 1 ≤ (w3.alloc (.cells #[.bool b3, .slice A3 n3 c3, .slice A'3 n'3 c'3, .bool x3] 26)).heap.size := by simp
  generalize hE4 : (w3.alloc (.cells #[.bool b3, .slice A3 n3 c3, .slice A'3 n'3 c'3, .bool x3] 26)) = w4 at p4 bw4 lw4 x4_0 x1_0 x1_1 x1_2 x1_3 ⊢
  clear hE4
  replace h := h.keep p4
  replace h' := h'.keep p4
  replace h'' := h''.keep p4
  replace h3 := h3.keep p4
  clear bw3
  obtain ⟨lx1_0_0, lx1_0_1, lx1_0_2, lx1_0_3⟩ := lts0 x1_0.lt
  obtain ⟨cx1_1_0, cx1_1_1, cx1_1_2, cx1_1_3⟩ := x1_1.c4
  obtain ⟨lx1_1_0, lx1_1_1, lx1_1_2, lx1_1_3⟩ := lts1 x1_1.lt
  obtain ⟨cx1_2_0, cx1_2_1, cx1_2_2, cx1_2_3⟩ := x1_2.c4
  obtain ⟨lx1_2_0, lx1_2_1, lx1_2_2, lx1_2_3⟩ := lts2 x1_2.lt
  obtain ⟨lx1_3_0, lx1_3_1, lx1_3_2, lx1_3_3⟩ := lts3 x1_3.lt
  obtain ⟨cx4_0_0, cx4_0_1, cx4_0_2, cx4_0_3⟩ := x4_0.c4
  obtain ⟨lx4_0_0, lx4_0_1, lx4_0_2, lx4_0_3⟩ := lts0 x4_0.lt
  go_region_held3 (fun w' => Sees w4.heap.size w4 w') (first | with_reducible exact Sees.of (Nat.le_refl _) (by assumption) | with_reducible exact Sees.of (Nat.le_refl _) (brefl _).drew | exact Sees.of (Nat.le_refl _) (below_drewN (brefl _) 1) | exact Sees.of (Nat.le_refl _) (below_drewN (by assumption) _))
    (first
      | (go_at_call 28; (with_reducible refine (t_add _ b'' A'' n'' c'' D'' m'' e'' x'' (t'') (k'') ?_ b3 A3 n3 c3 A'3 n'3 c'3 x3 (tneg (t)) ((k)) ?_ ?_ ?_ ?_ ?_).mono ?_); (exact h''); (exact h3.tk); (first | omega | decide | assumption); (first | omega | decide | assumption); (first | omega | decide | assumption); (first | omega | decide | assumption); rintro e w5 ⟨b5, A5, n5, c5, A'5, n'5, c'5, x5, rfl, h5, hb5⟩; replace hb5 := bnext (below_drewN (brefl _) 1) hb5; have q5 : Below w4.heap.size w4 w5 := bnext (brefl w4) hb5; replace h := h.belw hb5; replace h' := h'.belw hb5; replace h'' := h''.belw hb5; replace h3 := h3.belw hb5)
      | (go_at_call 28; (with_reducible refine (t_add _ b' A' n' c' D' m' e' x' (t') (k') ?_ b3 A3 n3 c3 A'3 n'3 c'3 x3 (tneg (t)) ((k)) ?_ ?_ ?_ ?_ ?_).mono ?_); (exact h'); (exact h3.tk); (first | omega | decide | assumption); (first | omega | decide | assumption); (first | omega | decide | assumption); (first | omega | decide | assumption); rintro e w6 ⟨b6, A6, n6, c6, A'6, n'6, c'6, x6, rfl, h6, hb6⟩; have q6 : Below w4.heap.size w4 w6 := bnext q5 hb6; replace h := h.belw hb6; replace h' := h'.belw hb6; replace h'' := h''.belw hb6; replace h3 := h3.belw hb6; replace h5 := h5.belw hb6)
      | (go_at_call 26; (with_reducible refine (t_compare_e _ b5 A5 n5 c5 A'5 n'5 c'5 x5 (tadd ((t'')) ((tneg (t)))) (2 * (k'') + 2 * ((k)) + 3) ?_ b6 A6 n6 c6 A'6 n'6 c'6 x6 (tadd ((t')) ((tneg (t)))) (2 * (k') + 2 * ((k)) + 3) ?_ (s1) ?_ ?_ ?_ ?_ ?_).mono ?_); (exact h5.tk); (exact h6.tk); (exact HS1.out); (first | omega | decide | assumption); (first | omega | decide | assumption); (first | omega | decide | assumption); (first | omega | decide | assumption); rintro e w7 ⟨rfl, hb7⟩; have q7 : Below w4.heap.size w4 w7 := bnext q6 hb7; replace h := h.belw hb7; replace h' := h'.belw hb7; replace h'' := h''.belw hb7; replace h3 := h3.belw hb7; replace h5 := h5.belw hb7; replace h6 := h6.belw hb7))
  have bw7 : Below w.heap.size w w7 := bw4.trans (q7.mono bw4.size)
  clear lx1_0_0 lx1_0_1 lx1_0_2 lx1_0_3 cx1_1_0 cx1_1_1 cx1_1_2 cx1_1_3 lx1_1_0 lx1_1_1 lx1_1_2 lx1_1_3 cx1_2_0 cx1_2_1 cx1_2_2 cx1_2_3 lx1_2_0 lx1_2_1 lx1_2_2 lx1_2_3 lx1_3_0 lx1_3_1 lx1_3_2 lx1_3_3 cx4_0_0 cx4_0_1 cx4_0_2 cx4_0_3 lx4_0_0 lx4_0_1 lx4_0_2 lx4_0_3
  replace x1_0 := x1_0.below q7 x1_0.lt
  replace x1_1 := x1_1.below q7 x1_1.lt
  replace x1_2 := x1_2.below q7 x1_2.lt
  replace x1_3 := x1_3.below q7 x1_3.lt
  replace x4_0 := x4_0.below q7 x4_0.lt
  have lw7 : w4.heap.size ≤ w7.heap.size := q7.size
  go_wp2_with fail
  refine bodyPost_ret (v := .tuple #[.bool (decide (s1 ≤ 0)), .nilIface]) (by simp [results, Tryz.results7, go_sem, *] <;> first | rfl | exact ⟨rfl, rfl⟩) rfl ?_
  exact ⟨rfl, bw7⟩
theorem t_Inside (w : World) (b : Bool) (A : Option Addr) (n c : Nat) (D : Option Addr) (m e : Nat) (x : Bool) (t : TN) (k : Nat) (h : TK w b A n c D m e x t k) (b' : Bool) (A' : Option Addr) (n' c' : Nat) (D' : Option Addr) (m' e' : Nat) (x' : Bool) (t' : TN) (k' : Nat) (h' : TK w b' A' n' c' D' m' e' x' t' k') (b'' : Bool) (A'' : Option Addr) (n'' c'' : Nat) (D'' : Option Addr) (m'' e'' : Nat) (x'' : Bool) (t'' : TN) (k'' : Nat) (h'' : TK w b'' A'' n'' c'' D'' m'' e'' x'' t'' k'') (h0 : 0 < k) (hk : k ≤ 200000) (h0' : 0 < k') (hk' : k' ≤ 200000) (h0'' : 0 < k'') (hk'' : k'' ≤ 200000) : Calls Tryz.prog 7 #[.agg #[.bool b, .slice A n c, .slice D m e, .bool x], .agg #[.bool b', .slice A' n' c', .slice D' m' e', .bool x'], .agg #[.bool b'', .slice A'' n'' c'', .slice D'' m'' e'', .bool x'']] w (RetV w (.tuple #[.bool (tinside t t' t''), .nilIface])) := by
  unfold tinside
  by_cases hs : tcmp t t' = 0
  · rw [if_pos hs]; exact t_Inside_eq w b A n c D m e x t k h b' A' n' c' D' m' e' x' t' k' h' b'' A'' n'' c'' D'' m'' e'' x'' t'' k'' h'' h0 hk h0' hk' h0'' hk'' hs
  · rw [if_neg hs]; exact t_Inside_ne w b A n c D m e x t k h b' A' n' c' D' m' e' x' t' k' h' b'' A'' n'' c'' D'' m'' e'' x'' t'' k'' h'' h0 hk h0' hk' h0'' hk'' _ _ rfl hs rfl
end Go.Proofs.YtmneloabphplmaaGreat

/- Walks: TurnArcs. -/
namespace Go.Proofs.YtmneloabphplmaaGreat
open Go Go.RowKit Bn
attribute [local go_sem ↓] Go.wp_at_zero Go.wp_at_succ
theorem t_Inside_v (w : World) (b : Bool) (A : Option Addr) (n c : Nat) (D : Option Addr) (m e : Nat) (x : Bool) (t : TN) (k : Nat) (h : TK w b A n c D m e x t k) (b' : Bool) (A' : Option Addr) (n' c' : Nat) (D' : Option Addr) (m' e' : Nat) (x' : Bool) (t' : TN) (k' : Nat) (h' : TK w b' A' n' c' D' m' e' x' t' k') (b'' : Bool) (A'' : Option Addr) (n'' c'' : Nat) (D'' : Option Addr) (m'' e'' : Nat) (x'' : Bool) (t'' : TN) (k'' : Nat) (h'' : TK w b'' A'' n'' c'' D'' m'' e'' x'' t'' k'') (v : Bool) (hv : tinside t t' t'' = v) (h0 : 0 < k) (hk : k ≤ 200000) (h0' : 0 < k') (hk' : k' ≤ 200000) (h0'' : 0 < k'') (hk'' : k'' ≤ 200000) : Calls Tryz.prog 7 #[.agg #[.bool b, .slice A n c, .slice D m e, .bool x], .agg #[.bool b', .slice A' n' c', .slice D' m' e', .bool x'], .agg #[.bool b'', .slice A'' n'' c'', .slice D'' m'' e'', .bool x'']] w (RetV w (.tuple #[.bool v, .nilIface])) := by
  subst hv; exact t_Inside w b A n c D m e x t k h b' A' n' c' D' m' e' x' t' k' h' b'' A'' n'' c'' D'' m'' e'' x'' t'' k'' h'' h0 hk h0' hk' h0'' hk''
theorem u_Inside_v (w : World) (b : Bool) (A : Option Addr) (n c : Nat) (D : Option Addr) (m e : Nat) (x : Bool) (t : TN) (k : Nat) (h : TK w b A n c D m e x t k) (b' : Bool) (A' : Option Addr) (n' c' : Nat) (D' : Option Addr) (m' e' : Nat) (x' : Bool) (t' : TN) (k' : Nat) (h' : TK w b' A' n' c' D' m' e' x' t' k') (b'' : Bool) (A'' : Option Addr) (n'' c'' : Nat) (D'' : Option Addr) (m'' e'' : Nat) (x'' : Bool) (t'' : TN) (k'' : Nat) (h'' : TK w b'' A'' n'' c'' D'' m'' e'' x'' t'' k'') (v : Bool) (hv : tinside t t' t'' = v) (h0 : 0 < k) (hk : k ≤ 200000) (h0' : 0 < k') (hk' : k' ≤ 200000) (h0'' : 0 < k'') (hk'' : k'' ≤ 200000) : Calls Tryz.prog 10 #[.agg #[.bool b, .slice A n c, .slice D m e, .bool x], .agg #[.bool b', .slice A' n' c', .slice D' m' e', .bool x'], .agg #[.bool b'', .slice A'' n'' c'', .slice D'' m'' e'', .bool x'']] w (RetV w (.bool v)) := by
  subst hv; exact u_Inside w b A n c D m e x t k h b' A' n' c' D' m' e' x' t' k' h' b'' A'' n'' c'' D'' m'' e'' x'' t'' k'' h'' h0 hk h0' hk' h0'' hk''
set_option maxRecDepth 100000 in
set_option maxHeartbeats 8000000 in
/-- linkworklaw12.TurnArcs -/
theorem l_TurnArcs (w : World) (b : Bool) (A : Option Addr) (n c : Nat) (D : Option Addr) (m e : Nat) (ra : RD) (k : Nat) (Hra : QD w b A n c D m e ra k) (b' : Bool) (A' : Option Addr) (n' c' : Nat) (D' : Option Addr) (m' e' : Nat) (rb : RD) (k' : Nat) (Hrb : QD w b' A' n' c' D' m' e' rb k') (b2 : Bool) (A2 : Option Addr) (n2 c2 : Nat) (D2 : Option Addr) (m2 e2 : Nat) (rc : RD) (k2 : Nat) (Hrc : QD w b2 A2 n2 c2 D2 m2 e2 rc k2) (x x' x2 : Bool) :
    Calls Tryz.prog 3 #[.agg #[.bool b, .slice A n c, .slice D m e, .bool x], .agg #[.bool b', .slice A' n' c', .slice D' m' e', .bool x'], .agg #[.bool b2, .slice A2 n2 c2, .slice D2 m2 e2, .bool x2]] w (RetV w (.bool true)) := by
  go_enter Tryz.func3, Tryz.ntmps3
  go_wp2_with fail
  (with_reducible refine (l_awake _).mono ?_); rintro e w1 ⟨rfl, hb1⟩
  have q1 : Below w.heap.size w w1 := ((((Below.refl _ _).alloc (Nat.le_refl _) _).alloc (by simp) _).alloc (by simp <;> omega) _).trans (hb1.mono (by simp <;> omega))
  replace Hra := Hra.belw q1
  replace Hrb := Hrb.belw q1
  replace Hrc := Hrc.belw q1
  have x1_0 : Blk w1 (w.heap.size) 26 #[.bool b, .slice A n c, .slice D m e, .bool x] := (((blkAt _ _ _ (by simp)).alloc _).alloc _).below hb1 (by simp <;> omega)
  have x1_1 : Blk w1 (w.heap.size + 1) 26 #[.bool b', .slice A' n' c', .slice D' m' e', .bool x'] := ((blkAt _ _ _ (by simp)).alloc _).below hb1 (by simp <;> omega)
  have x1_2 : Blk w1 (w.heap.size + 1 + 1) 26 #[.bool b2, .slice A2 n2 c2, .slice D2 m2 e2, .bool x2] := (blkAt _ _ _ (by simp)).below hb1 (by simp)
  have bw1 : Below w.heap.size w w1 := (brefl w).trans (q1.mono (brefl w).size)
  have lw1 : w.heap.size + 3 ≤ w1.heap.size := by have := hb1.size; simp at this; omega
  clear hb1 q1
  obtain ⟨cx1_0_0, cx1_0_1, cx1_0_2, cx1_0_3⟩ := x1_0.c4
  obtain ⟨lx1_0_0, lx1_0_1, lx1_0_2, lx1_0_3⟩ := lts0 x1_0.lt
  obtain ⟨cx1_1_0, cx1_1_1, cx1_1_2, cx1_1_3⟩ := x1_1.c4
  obtain ⟨lx1_1_0, lx1_1_1, lx1_1_2, lx1_1_3⟩ := lts1 x1_1.lt
  obtain ⟨cx1_2_0, cx1_2_1, cx1_2_2, cx1_2_3⟩ := x1_2.c4
  obtain ⟨lx1_2_0, lx1_2_1, lx1_2_2, lx1_2_3⟩ := lts2 x1_2.lt
  go_wp2_with fail
  (with_reducible refine (l_short _ (w1.heap.size) 3 (fun i : Nat => if i = 0 then n else if i = 1 then n' else n2) (fun i : Nat => if i = 0 then m else if i = 1 then m' else m2) ?_ ?_).mono ?_); (exact rs3 (blkAt _ _ _ (by simp))); (decide); rintro e w2 ⟨r2, rfl, hr2, hb2⟩
  clear cx1_0_0 cx1_0_1 cx1_0_2 cx1_0_3 lx1_0_0 lx1_0_1 lx1_0_2 lx1_0_3 cx1_1_0 cx1_1_1 cx1_1_2 cx1_1_3 lx1_1_0 lx1_1_1 lx1_1_2 lx1_1_3 cx1_2_0 cx1_2_1 cx1_2_2 cx1_2_3 lx1_2_0 lx1_2_1 lx1_2_2 lx1_2_3
  have q2 : Below w1.heap.size w1 w2 := ((Below.refl _ _).alloc (Nat.le_refl _) _).trans (hb2.mono (by simp))
  replace Hra := Hra.belw q2
  replace Hrb := Hrb.belw q2
  replace Hrc := Hrc.belw q2
  replace x1_0 := x1_0.below q2 x1_0.lt
  replace x1_1 := x1_1.below q2 x1_1.lt
  replace x1_2 := x1_2.below q2 x1_2.lt
  have x2_0 : Blk w2 (w1.heap.size) 24 #[.bool b, .slice A n c, .slice D m e, .bool b', .slice A' n' c', .slice D' m' e', .bool b2, .slice A2 n2 c2, .slice D2 m2 e2] := (blkAt _ _ _ (by simp)).below hb2 (by simp)
  have bw2 : Below w.heap.size w w2 := bw1.trans (q2.mono bw1.size)
  have lw2 : w1.heap.size + 1 ≤ w2.heap.size := by have := hb2.size; simp at this; omega
  clear hb2 q2 bw1
  obtain ⟨cx1_0_0, cx1_0_1, cx1_0_2, cx1_0_3⟩ := x1_0.c4
  obtain ⟨lx1_0_0, lx1_0_1, lx1_0_2, lx1_0_3⟩ := lts0 x1_0.lt
  obtain ⟨cx1_1_0, cx1_1_1, cx1_1_2, cx1_1_3⟩ := x1_1.c4
  obtain ⟨lx1_1_0, lx1_1_1, lx1_1_2, lx1_1_3⟩ := lts1 x1_1.lt
  obtain ⟨cx1_2_0, cx1_2_1, cx1_2_2, cx1_2_3⟩ := x1_2.c4
  obtain ⟨lx1_2_0, lx1_2_1, lx1_2_2, lx1_2_3⟩ := lts2 x1_2.lt
  cases r2
  · go_wp2_with fail
    (with_reducible refine (l_awake _).mono ?_); rintro e w3 ⟨rfl, hb3⟩
    clear cx1_0_0 cx1_0_1 cx1_0_2 cx1_0_3 lx1_0_0 lx1_0_1 lx1_0_2 lx1_0_3 cx1_1_0 cx1_1_1 cx1_1_2 cx1_1_3 lx1_1_0 lx1_1_1 lx1_1_2 lx1_1_3 cx1_2_0 cx1_2_1 cx1_2_2 cx1_2_3 lx1_2_0 lx1_2_1 lx1_2_2 lx1_2_3
    have q3 : Below w2.heap.size w2 w3 := hb3
    replace Hra := Hra.belw q3
    replace Hrb := Hrb.belw q3
    replace Hrc := Hrc.belw q3
    replace x1_0 := x1_0.below q3 x1_0.lt
    replace x1_1 := x1_1.below q3 x1_1.lt
    replace x1_2 := x1_2.below q3 x1_2.lt
    replace x2_0 := x2_0.below q3 x2_0.lt
    have bw3 : Below w.heap.size w w3 := bw2.trans (q3.mono bw2.size)
    have lw3 : w2.heap.size ≤ w3.heap.size := q3.size
    clear hb3 q3 bw2
    go_wp2_with fail
    go_ret
    exact retB rfl bw3
  · have hs0 := hr2 rfl 0 (by decide)
    have hs1 := hr2 rfl 1 (by decide)
    have hs2 := hr2 rfl 2 (by decide)
    clear hr2
    replace Hra := QD.short Hra hs0
    replace Hrb := QD.short Hrb hs1
    replace Hrc := QD.short Hrc hs2
    clear hs0 hs1 hs2
    by_cases hall : accT ra x = true ∧ accT rb x' = true ∧ accT rc x2 = true
    · have hTa : TK w2 b A n c D m e x ⟨ra.q, x⟩ 6 := acc_tk Hra hall.1
      have hTb : TK w2 b' A' n' c' D' m' e' x' ⟨rb.q, x'⟩ 6 := acc_tk Hrb hall.2.1
      have hTc : TK w2 b2 A2 n2 c2 D2 m2 e2 x2 ⟨rc.q, x2⟩ 6 := acc_tk Hrc hall.2.2
      obtain ⟨s, hs⟩ : ∃ s, tinside ⟨ra.q, x⟩ ⟨rb.q, x'⟩ ⟨rc.q, x2⟩ = s := ⟨_, rfl⟩
      have HS := Lib.hid hs
      clear hs
      have HALL := Lib.hid hall
      clear hall
      go_wp2_with fail
      (with_reducible refine (t_Inside_v _ b A n c D m e x (⟨ra.q, x⟩) (6) ?_ b' A' n' c' D' m' e' x' (⟨rb.q, x'⟩) (6) ?_ b2 A2 n2 c2 D2 m2 e2 x2 (⟨rc.q, x2⟩) (6) ?_ s ?_ ?_ ?_ ?_ ?_ ?_ ?_).mono ?_); (exact hTa); (exact hTb); (exact hTc); (exact HS.out); (first | omega | decide | assumption); (first | omega | decide | assumption); (first | omega | decide | assumption); (first | omega | decide | assumption); (first | omega | decide | assumption); (first | omega | decide | assumption); rintro e w3 ⟨rfl, hb3⟩
      clear cx1_0_0 cx1_0_1 cx1_0_2 cx1_0_3 lx1_0_0 lx1_0_1 lx1_0_2 lx1_0_3 cx1_1_0 cx1_1_1 cx1_1_2 cx1_1_3 lx1_1_0 lx1_1_1 lx1_1_2 lx1_1_3 cx1_2_0 cx1_2_1 cx1_2_2 cx1_2_3 lx1_2_0 lx1_2_1 lx1_2_2 lx1_2_3
      have q3 : Below w2.heap.size w2 w3 := hb3
      replace Hra := Hra.belw q3
      replace Hrb := Hrb.belw q3
      replace Hrc := Hrc.belw q3
      replace hTa := hTa.belw q3
      replace hTb := hTb.belw q3
      replace hTc := hTc.belw q3
      replace x1_0 := x1_0.below q3 x1_0.lt
      replace x1_1 := x1_1.below q3 x1_1.lt
      replace x1_2 := x1_2.below q3 x1_2.lt
      replace x2_0 := x2_0.below q3 x2_0.lt
      have bw3 : Below w.heap.size w w3 := bw2.trans (q3.mono bw2.size)
      have lw3 : w2.heap.size ≤ w3.heap.size := q3.size
      clear hb3 q3 bw2
      obtain ⟨cx1_0_0, cx1_0_1, cx1_0_2, cx1_0_3⟩ := x1_0.c4
      obtain ⟨lx1_0_0, lx1_0_1, lx1_0_2, lx1_0_3⟩ := lts0 x1_0.lt
      obtain ⟨cx1_1_0, cx1_1_1, cx1_1_2, cx1_1_3⟩ := x1_1.c4
      obtain ⟨lx1_1_0, lx1_1_1, lx1_1_2, lx1_1_3⟩ := lts1 x1_1.lt
      obtain ⟨cx1_2_0, cx1_2_1, cx1_2_2, cx1_2_3⟩ := x1_2.c4
      obtain ⟨lx1_2_0, lx1_2_1, lx1_2_2, lx1_2_3⟩ := lts2 x1_2.lt
      go_wp2_with fail
      clear cx1_0_0 cx1_0_1 cx1_0_2 cx1_0_3 lx1_0_0 lx1_0_1 lx1_0_2 lx1_0_3 cx1_1_0 cx1_1_1 cx1_1_2 cx1_1_3 lx1_1_0 lx1_1_1 lx1_1_2 lx1_1_3 cx1_2_0 cx1_2_1 cx1_2_2 cx1_2_3 lx1_2_0 lx1_2_1 lx1_2_2 lx1_2_3
      have p4 : Kp w3 (w3.alloc (.cells #[.bool b, .slice A n c, .slice D m e, .bool x, .bool b', .slice A' n' c', .slice D' m' e', .bool x', .bool b2, .slice A2 n2 c2, .slice D2 m2 e2, .bool x2] 26)) := ((Kp.refl w3).alloc (.cells #[.bool b, .slice A n c, .slice D m e, .bool x, .bool b', .slice A' n' c', .slice D' m' e', .bool x', .bool b2, .slice A2 n2 c2, .slice D2 m2 e2, .bool x2] 26))
      have bw4 : Below w.heap.size w (w3.alloc (.cells #[.bool b, .slice A n c, .slice D m e, .bool x, .bool b', .slice A' n' c', .slice D' m' e', .bool x', .bool b2, .slice A2 n2 c2, .slice D2 m2 e2, .bool x2] 26)) := (bw3.alloc (by first | omega | (simp <;> omega)) (.cells #[.bool b, .slice A n c, .slice D m e, .bool x, .bool b', .slice A' n' c', .slice D' m' e', .bool x', .bool b2, .slice A2 n2 c2, .slice D2 m2 e2, .bool x2] 26))
      have x4_0 : Blk (w3.alloc (.cells #[.bool b, .slice A n c, .slice D m e, .bool x, .bool b', .slice A' n' c', .slice D' m' e', .bool x', .bool b2, .slice A2 n2 c2, .slice D2 m2 e2, .bool x2] 26)) (w3.heap.size) 26 #[.bool b, .slice A n c, .slice D m e, .bool x, .bool b', .slice A' n' c', .slice D' m' e', .bool x', .bool b2, .slice A2 n2 c2, .slice D2 m2 e2, .bool x2] := (blkAt _ _ _ (by simp))
      replace x1_0 : Blk (w3.alloc (.cells #[.bool b, .slice A n c, .slice D m e, .bool x, .bool b', .slice A' n' c', .slice D' m' e', .bool x', .bool b2, .slice A2 n2 c2, .slice D2 m2 e2, .bool x2] 26)) (w.heap.size) 26 #[.bool b, .slice A n c, .slice D m e, .bool x] := (x1_0.alloc (.cells #[.bool b, .slice A n c, .slice D m e, .bool x, .bool b', .slice A' n' c', .slice D' m' e', .bool x', .bool b2, .slice A2 n2 c2, .slice D2 m2 e2, .bool x2] 26))
      replace x1_1 : Blk (w3.alloc (.cells #[.bool b, .slice A n c, .slice D m e, .bool x, .bool b', .slice A' n' c', .slice D' m' e', .bool x', .bool b2, .slice A2 n2 c2, .slice D2 m2 e2, .bool x2] 26)) (w.heap.size + 1) 26 #[.bool b', .slice A' n' c', .slice D' m' e', .bool x'] := (x1_1.alloc (.cells #[.bool b, .slice A n c, .slice D m e, .bool x, .bool b', .slice A' n' c', .slice D' m' e', .bool x', .bool b2, .slice A2 n2 c2, .slice D2 m2 e2, .bool x2] 26))
      replace x1_2 : Blk (w3.alloc (.cells #[.bool b, .slice A n c, .slice D m e, .bool x, .bool b', .slice A' n' c', .slice D' m' e', .bool x', .bool b2, .slice A2 n2 c2, .slice D2 m2 e2, .bool x2] 26)) (w.heap.size + 1 + 1) 26 #[.bool b2, .slice A2 n2 c2, .slice D2 m2 e2, .bool x2] := (x1_2.alloc (.cells #[.bool b, .slice A n c, .slice D m e, .bool x, .bool b', .slice A' n' c', .slice D' m' e', .bool x', .bool b2, .slice A2 n2 c2, .slice D2 m2 e2, .bool x2] 26))
      replace x2_0 : Blk (w3.alloc (.cells #[.bool b, .slice A n c, .slice D m e, .bool x, .bool b', .slice A' n' c', .slice D' m' e', .bool x', .bool b2, .slice A2 n2 c2, .slice D2 m2 e2, .bool x2] 26)) (w1.heap.size) 24 #[.bool b, .slice A n c, .slice D m e, .bool b', .slice A' n' c', .slice D' m' e', .bool b2, .slice A2 n2 c2, .slice D2 m2 e2] := (x2_0.alloc (.cells #[.bool b, .slice A n c, .slice D m e, .bool x, .bool b', .slice A' n' c', .slice D' m' e', .bool x', .bool b2, .slice A2 n2 c2, .slice D2 m2 e2, .bool x2] 26))
      have lw4 : w3.heap.size + 1 ≤ (w3.alloc (.cells #[.bool b, .slice A n c, .slice D m e, .bool x, .bool b', .slice A' n' c', .slice D' m' e', .bool x', .bool b2, .slice A2 n2 c2, .slice D2 m2 e2, .bool x2] 26)).heap.size := by simp
      generalize hE4 : (w3.alloc (.cells #[.bool b, .slice A n c, .slice D m e, .bool x, .bool b', .slice A' n' c', .slice D' m' e', .bool x', .bool b2, .slice A2 n2 c2, .slice D2 m2 e2, .bool x2] 26)) = w4 at p4 bw4 lw4 x4_0 x1_0 x1_1 x1_2 x2_0 ⊢
      clear hE4
      replace Hra := Hra.keep p4
      replace Hrb := Hrb.keep p4
      replace Hrc := Hrc.keep p4
      replace hTa := hTa.keep p4
      replace hTb := hTb.keep p4
      replace hTc := hTc.keep p4
      clear bw3
      obtain ⟨rs, hrs⟩ : ∃ r : Nat → RD, r = (fun i : Nat => if i = 0 then ra else if i = 1 then rb else rc) := ⟨_, rfl⟩
      obtain ⟨xs, hxs⟩ : ∃ r : Nat → Bool, r = (fun i : Nat => if i = 0 then x else if i = 1 then x' else x2) := ⟨_, rfl⟩
      have hG : Gs w4 (w3.heap.size) 3 6 rs xs := by rw [hrs, hxs]; exact gs3 x4_0 Hra Hrb Hrc
      have HAC := Lib.hid (show ∀ i, i < 3 → accT (rs i) (xs i) = true by
        intro i hi; rw [hrs, hxs]
        match i, hi with
        | 0, _ => exact HALL.out.1
        | 1, _ => exact HALL.out.2.1
        | 2, _ => exact HALL.out.2.2)
      clear hrs hxs
      go_loopw [38] (fun iv wr => ∃ i : Nat, i ≤ 3 ∧ iv = .int .i64 (i : Nat) ∧ (∀ j, j < i → accT (rs j) (xs j) = true) ∧ Below w4.heap.size w4 wr) (fun iv _ => 3 - (intOf iv).toNat)
      case atStart => exact ⟨0, Nat.zero_le _, rfl, fun j hj => absurd hj (by omega), brefl _⟩
      case round =>
        obtain ⟨i, hi, rfl, hacs, hb⟩ := hrel
        have HA := Lib.hid hacs
        have HB := Lib.hid hb
        by_cases hlt : i < 3
        · have hw := hG.belw hb
          obtain ⟨bz, Az, mz, cz, Dz, mz', ez, c0, c1, c2z, c3, h5⟩ := hw.2 i hlt
          have hgl := hw.1
          obtain ⟨xz, hx⟩ : ∃ x, xs i = x := ⟨_, rfl⟩
          rw [hx] at c3
          have HX := Lib.hid hx
          clear hw hacs hb hx
          by_cases hacc : accT (rs i) xz = true
          · go_wp2_with fail
            (with_reducible refine (g_chk_good _ bz Az mz cz Dz mz' ez (rs i) 6 ?_ ?_ ?_ xz ?_).mono ?_); (exact h5.belw ((Below.refl _ _).alloc (Nat.le_refl _) _)); (decide); (decide); (exact hacc); rintro e w1 ⟨rfl, hb1⟩
            have HB1 := Lib.hid (HB.out.trans ((((Below.refl _ _).alloc (Nat.le_refl _) _).trans (hb1.mono (by simp))).mono HB.out.size))
            have HC := Lib.hid hacc
            clear hb1 hacc
            go_wp2_with fail
            go_roundw
            case rel => exact ⟨i + 1, by omega, by go_num, fun j hj => by
              by_cases hji : j = i
              · subst hji; rw [HX.out]; exact HC.out
              · exact HA.out j (by omega), HB1.out⟩
            case measure => simp [intOf]; omega
          · exact absurd (by rw [← HX.out]; exact HAC.out i hlt) hacc
        · have hi3 : i = 3 := by omega
          subst hi3
          clear hacs
          have bwr : Below w.heap.size w wr := bw4.trans (hb.mono bw4.size)
          have y0 : Blk wr (w.heap.size) 26 #[.bool b, .slice A n c, .slice D m e, .bool x] := x1_0.below hb x1_0.lt
          have y1 : Blk wr (w.heap.size + 1) 26 #[.bool b', .slice A' n' c', .slice D' m' e', .bool x'] := x1_1.below hb x1_1.lt
          have y2 : Blk wr (w.heap.size + 1 + 1) 26 #[.bool b2, .slice A2 n2 c2, .slice D2 m2 e2, .bool x2] := x1_2.below hb x1_2.lt
          have y3 : Blk wr (w1.heap.size) 24 #[.bool b, .slice A n c, .slice D m e, .bool b', .slice A' n' c', .slice D' m' e', .bool b2, .slice A2 n2 c2, .slice D2 m2 e2] := x2_0.below hb x2_0.lt
          have hsz : w4.heap.size ≤ wr.heap.size := hb.size
          replace Hra := Hra.belw hb
          replace Hrb := Hrb.belw hb
          replace Hrc := Hrc.belw hb
          replace hTa := hTa.belw hb
          replace hTb := hTb.belw hb
          replace hTc := hTc.belw hb
          clear hb HB hG x1_0 x1_1 x1_2 x2_0 x4_0
          obtain ⟨cy0_0, cy0_1, cy0_2, cy0_3⟩ := y0.c4
          obtain ⟨ly0_0, ly0_1, ly0_2, ly0_3⟩ := lts0 y0.lt
          obtain ⟨cy1_0, cy1_1, cy1_2, cy1_3⟩ := y1.c4
          obtain ⟨ly1_0, ly1_1, ly1_2, ly1_3⟩ := lts1 y1.lt
          obtain ⟨cy2_0, cy2_1, cy2_2, cy2_3⟩ := y2.c4
          obtain ⟨ly2_0, ly2_1, ly2_2, ly2_3⟩ := lts2 y2.lt
          go_wp2_with fail
          (with_reducible refine (u_Inside_v _ b A n c D m e x (⟨ra.q, x⟩) (6) ?_ b' A' n' c' D' m' e' x' (⟨rb.q, x'⟩) (6) ?_ b2 A2 n2 c2 D2 m2 e2 x2 (⟨rc.q, x2⟩) (6) ?_ s ?_ ?_ ?_ ?_ ?_ ?_ ?_).mono ?_); (exact hTa); (exact hTb); (exact hTc); (exact HS.out); (first | omega | decide | assumption); (first | omega | decide | assumption); (first | omega | decide | assumption); (first | omega | decide | assumption); (first | omega | decide | assumption); (first | omega | decide | assumption); rintro e w5 ⟨rfl, hb5⟩
          clear cy0_0 cy0_1 cy0_2 cy0_3 ly0_0 ly0_1 ly0_2 ly0_3 cy1_0 cy1_1 cy1_2 cy1_3 ly1_0 ly1_1 ly1_2 ly1_3 cy2_0 cy2_1 cy2_2 cy2_3 ly2_0 ly2_1 ly2_2 ly2_3
          have q5 : Below wr.heap.size wr w5 := hb5
          replace Hra := Hra.belw q5
          replace Hrb := Hrb.belw q5
          replace Hrc := Hrc.belw q5
          replace hTa := hTa.belw q5
          replace hTb := hTb.belw q5
          replace hTc := hTc.belw q5
          replace y0 := y0.below q5 y0.lt
          replace y1 := y1.below q5 y1.lt
          replace y2 := y2.below q5 y2.lt
          replace y3 := y3.below q5 y3.lt
          have bw5 : Below w.heap.size w w5 := bwr.trans (q5.mono bwr.size)
          have lw5 : wr.heap.size ≤ w5.heap.size := q5.size
          clear hb5 q5
          go_wp2_with fail
          go_ret
          exact retB rfl bw5
    · have hbad : accT ra x = false ∨ accT rb x' = false ∨ accT rc x2 = false := by
        revert hall
        cases accT ra x <;> cases accT rb x' <;> cases accT rc x2 <;> simp
      have HALL := Lib.hid hbad
      clear hall hbad
      go_wp2_with fail
      (with_reducible refine (t_Inside_bad _ 6 b A n c D m e ra ?_ b' A' n' c' D' m' e' rb ?_ b2 A2 n2 c2 D2 m2 e2 rc ?_ x x' x2 ?_ ?_ ?_).mono ?_); (exact Hra); (exact Hrb); (exact Hrc); (first | omega | decide | assumption); (first | omega | decide | assumption); (exact HALL.out); rintro e w3 ⟨rfl, hb3⟩
      clear cx1_0_0 cx1_0_1 cx1_0_2 cx1_0_3 lx1_0_0 lx1_0_1 lx1_0_2 lx1_0_3 cx1_1_0 cx1_1_1 cx1_1_2 cx1_1_3 lx1_1_0 lx1_1_1 lx1_1_2 lx1_1_3 cx1_2_0 cx1_2_1 cx1_2_2 cx1_2_3 lx1_2_0 lx1_2_1 lx1_2_2 lx1_2_3
      have q3 : Below w2.heap.size w2 w3 := hb3
      replace Hra := Hra.belw q3
      replace Hrb := Hrb.belw q3
      replace Hrc := Hrc.belw q3
      replace x1_0 := x1_0.below q3 x1_0.lt
      replace x1_1 := x1_1.below q3 x1_1.lt
      replace x1_2 := x1_2.below q3 x1_2.lt
      replace x2_0 := x2_0.below q3 x2_0.lt
      have bw3 : Below w.heap.size w w3 := bw2.trans (q3.mono bw2.size)
      have lw3 : w2.heap.size ≤ w3.heap.size := q3.size
      clear hb3 q3 bw2
      obtain ⟨cx1_0_0, cx1_0_1, cx1_0_2, cx1_0_3⟩ := x1_0.c4
      obtain ⟨lx1_0_0, lx1_0_1, lx1_0_2, lx1_0_3⟩ := lts0 x1_0.lt
      obtain ⟨cx1_1_0, cx1_1_1, cx1_1_2, cx1_1_3⟩ := x1_1.c4
      obtain ⟨lx1_1_0, lx1_1_1, lx1_1_2, lx1_1_3⟩ := lts1 x1_1.lt
      obtain ⟨cx1_2_0, cx1_2_1, cx1_2_2, cx1_2_3⟩ := x1_2.c4
      obtain ⟨lx1_2_0, lx1_2_1, lx1_2_2, lx1_2_3⟩ := lts2 x1_2.lt
      go_wp2_with fail
      clear cx1_0_0 cx1_0_1 cx1_0_2 cx1_0_3 lx1_0_0 lx1_0_1 lx1_0_2 lx1_0_3 cx1_1_0 cx1_1_1 cx1_1_2 cx1_1_3 lx1_1_0 lx1_1_1 lx1_1_2 lx1_1_3 cx1_2_0 cx1_2_1 cx1_2_2 cx1_2_3 lx1_2_0 lx1_2_1 lx1_2_2 lx1_2_3
      have p4 : Kp w3 (w3.alloc (.cells #[.bool b, .slice A n c, .slice D m e, .bool x, .bool b', .slice A' n' c', .slice D' m' e', .bool x', .bool b2, .slice A2 n2 c2, .slice D2 m2 e2, .bool x2] 26)) := ((Kp.refl w3).alloc (.cells #[.bool b, .slice A n c, .slice D m e, .bool x, .bool b', .slice A' n' c', .slice D' m' e', .bool x', .bool b2, .slice A2 n2 c2, .slice D2 m2 e2, .bool x2] 26))
      have bw4 : Below w.heap.size w (w3.alloc (.cells #[.bool b, .slice A n c, .slice D m e, .bool x, .bool b', .slice A' n' c', .slice D' m' e', .bool x', .bool b2, .slice A2 n2 c2, .slice D2 m2 e2, .bool x2] 26)) := (bw3.alloc (by first | omega | (simp <;> omega)) (.cells #[.bool b, .slice A n c, .slice D m e, .bool x, .bool b', .slice A' n' c', .slice D' m' e', .bool x', .bool b2, .slice A2 n2 c2, .slice D2 m2 e2, .bool x2] 26))
      have x4_0 : Blk (w3.alloc (.cells #[.bool b, .slice A n c, .slice D m e, .bool x, .bool b', .slice A' n' c', .slice D' m' e', .bool x', .bool b2, .slice A2 n2 c2, .slice D2 m2 e2, .bool x2] 26)) (w3.heap.size) 26 #[.bool b, .slice A n c, .slice D m e, .bool x, .bool b', .slice A' n' c', .slice D' m' e', .bool x', .bool b2, .slice A2 n2 c2, .slice D2 m2 e2, .bool x2] := (blkAt _ _ _ (by simp))
      replace x1_0 : Blk (w3.alloc (.cells #[.bool b, .slice A n c, .slice D m e, .bool x, .bool b', .slice A' n' c', .slice D' m' e', .bool x', .bool b2, .slice A2 n2 c2, .slice D2 m2 e2, .bool x2] 26)) (w.heap.size) 26 #[.bool b, .slice A n c, .slice D m e, .bool x] := (x1_0.alloc (.cells #[.bool b, .slice A n c, .slice D m e, .bool x, .bool b', .slice A' n' c', .slice D' m' e', .bool x', .bool b2, .slice A2 n2 c2, .slice D2 m2 e2, .bool x2] 26))
      replace x1_1 : Blk (w3.alloc (.cells #[.bool b, .slice A n c, .slice D m e, .bool x, .bool b', .slice A' n' c', .slice D' m' e', .bool x', .bool b2, .slice A2 n2 c2, .slice D2 m2 e2, .bool x2] 26)) (w.heap.size + 1) 26 #[.bool b', .slice A' n' c', .slice D' m' e', .bool x'] := (x1_1.alloc (.cells #[.bool b, .slice A n c, .slice D m e, .bool x, .bool b', .slice A' n' c', .slice D' m' e', .bool x', .bool b2, .slice A2 n2 c2, .slice D2 m2 e2, .bool x2] 26))
      replace x1_2 : Blk (w3.alloc (.cells #[.bool b, .slice A n c, .slice D m e, .bool x, .bool b', .slice A' n' c', .slice D' m' e', .bool x', .bool b2, .slice A2 n2 c2, .slice D2 m2 e2, .bool x2] 26)) (w.heap.size + 1 + 1) 26 #[.bool b2, .slice A2 n2 c2, .slice D2 m2 e2, .bool x2] := (x1_2.alloc (.cells #[.bool b, .slice A n c, .slice D m e, .bool x, .bool b', .slice A' n' c', .slice D' m' e', .bool x', .bool b2, .slice A2 n2 c2, .slice D2 m2 e2, .bool x2] 26))
      replace x2_0 : Blk (w3.alloc (.cells #[.bool b, .slice A n c, .slice D m e, .bool x, .bool b', .slice A' n' c', .slice D' m' e', .bool x', .bool b2, .slice A2 n2 c2, .slice D2 m2 e2, .bool x2] 26)) (w1.heap.size) 24 #[.bool b, .slice A n c, .slice D m e, .bool b', .slice A' n' c', .slice D' m' e', .bool b2, .slice A2 n2 c2, .slice D2 m2 e2] := (x2_0.alloc (.cells #[.bool b, .slice A n c, .slice D m e, .bool x, .bool b', .slice A' n' c', .slice D' m' e', .bool x', .bool b2, .slice A2 n2 c2, .slice D2 m2 e2, .bool x2] 26))
      have lw4 : w3.heap.size + 1 ≤ (w3.alloc (.cells #[.bool b, .slice A n c, .slice D m e, .bool x, .bool b', .slice A' n' c', .slice D' m' e', .bool x', .bool b2, .slice A2 n2 c2, .slice D2 m2 e2, .bool x2] 26)).heap.size := by simp
      generalize hE4 : (w3.alloc (.cells #[.bool b, .slice A n c, .slice D m e, .bool x, .bool b', .slice A' n' c', .slice D' m' e', .bool x', .bool b2, .slice A2 n2 c2, .slice D2 m2 e2, .bool x2] 26)) = w4 at p4 bw4 lw4 x4_0 x1_0 x1_1 x1_2 x2_0 ⊢
      clear hE4
      replace Hra := Hra.keep p4
      replace Hrb := Hrb.keep p4
      replace Hrc := Hrc.keep p4
      clear bw3
      obtain ⟨rs, hrs⟩ : ∃ r : Nat → RD, r = (fun i : Nat => if i = 0 then ra else if i = 1 then rb else rc) := ⟨_, rfl⟩
      obtain ⟨xs, hxs⟩ : ∃ r : Nat → Bool, r = (fun i : Nat => if i = 0 then x else if i = 1 then x' else x2) := ⟨_, rfl⟩
      have hG : Gs w4 (w3.heap.size) 3 6 rs xs := by rw [hrs, hxs]; exact gs3 x4_0 Hra Hrb Hrc
      have HAC := Lib.hid (show ∃ i, i < 3 ∧ accT (rs i) (xs i) = false by
        rw [hrs, hxs]
        rcases HALL.out with h | h | h
        · exact ⟨0, by decide, h⟩
        · exact ⟨1, by decide, h⟩
        · exact ⟨2, by decide, h⟩)
      clear hrs hxs
      go_loopw [38] (fun iv wr => ∃ i : Nat, i ≤ 3 ∧ iv = .int .i64 (i : Nat) ∧ (∀ j, j < i → accT (rs j) (xs j) = true) ∧ Below w4.heap.size w4 wr) (fun iv _ => 3 - (intOf iv).toNat)
      case atStart => exact ⟨0, Nat.zero_le _, rfl, fun j hj => absurd hj (by omega), brefl _⟩
      case round =>
        obtain ⟨i, hi, rfl, hacs, hb⟩ := hrel
        have HA := Lib.hid hacs
        have HB := Lib.hid hb
        by_cases hlt : i < 3
        · have hw := hG.belw hb
          obtain ⟨bz, Az, mz, cz, Dz, mz', ez, c0, c1, c2z, c3, h5⟩ := hw.2 i hlt
          have hgl := hw.1
          obtain ⟨xz, hx⟩ : ∃ x, xs i = x := ⟨_, rfl⟩
          rw [hx] at c3
          have HX := Lib.hid hx
          clear hw hacs hb hx
          by_cases hacc : accT (rs i) xz = true
          · go_wp2_with fail
            (with_reducible refine (g_chk_good _ bz Az mz cz Dz mz' ez (rs i) 6 ?_ ?_ ?_ xz ?_).mono ?_); (exact h5.belw ((Below.refl _ _).alloc (Nat.le_refl _) _)); (decide); (decide); (exact hacc); rintro e w1 ⟨rfl, hb1⟩
            have HB1 := Lib.hid (HB.out.trans ((((Below.refl _ _).alloc (Nat.le_refl _) _).trans (hb1.mono (by simp))).mono HB.out.size))
            have HC := Lib.hid hacc
            clear hb1 hacc
            go_wp2_with fail
            go_roundw
            case rel => exact ⟨i + 1, by omega, by go_num, fun j hj => by
              by_cases hji : j = i
              · subst hji; rw [HX.out]; exact HC.out
              · exact HA.out j (by omega), HB1.out⟩
            case measure => simp [intOf]; omega
          · have hf : accT (rs i) xz = false := by revert hacc; cases accT (rs i) xz <;> simp
            have HF := Lib.hid hf
            clear hf hacc
            go_wp2_with fail
            (with_reducible refine (g_chk_bad _ bz Az mz cz Dz mz' ez (rs i) 6 ?_ ?_ ?_ xz ?_).mono ?_); (exact h5.belw ((Below.refl _ _).alloc (Nat.le_refl _) _)); (decide); (decide); (exact HF.out); rintro e w1 ⟨rfl, hb1⟩
            have HB1 := Lib.hid (HB.out.trans ((((Below.refl _ _).alloc (Nat.le_refl _) _).trans (hb1.mono (by simp))).mono HB.out.size))
            clear hb1
            go_wp2_with fail
            (with_reducible refine (b_num_err _).mono ?_); rintro e w2 ⟨rfl, hb2⟩
            have HB2 := Lib.hid (HB1.out.trans (hb2.mono HB1.out.size))
            clear hb2
            go_wp2_with fail
            go_ret
            exact retB rfl (bw4.trans (HB2.out.mono bw4.size))
        · exfalso
          obtain ⟨j, hj, hf⟩ := HAC.out
          rw [hacs j (by omega)] at hf
          cases hf
end Go.Proofs.YtmneloabphplmaaGreat

namespace Go.Proofs.YtmneloabphplmaaGreat
open Go Go.RowKit Bn Go.ChangeShapes Go.WideShapes
theorem own_knob : ownKnob Tryz.prog.godebug = none := by kernel_rfl
theorem laid_out : laidOutB Tryz.prog = true := by kernel_rfl
set_option maxRecDepth 100000 in
theorem arcs_lifted (os : Os) (started : os.Started) (H : Type) (enc : TypeId × Value → H) :
    ReturnsInHanded {} Tryz.checked os 3 .any (Rows.turnArcsSpec.pre6 enc Tryz.prog Tryz.f3 Rows.turnArcsRow.domain false) (Rows.turnArcsSpec.post enc Tryz.prog Tryz.f3 false true false false) := by
  refine returnsInHanded_of_change (C := Tryz.checked) own_knob started (by kernel_rfl) Tryz.func3
    (ChangeSpec.witness6 (enc := enc) (C := Tryz.checked) false ⟨#[], #[.agg #[.bool false, .slice none 0 0, .slice none 0 0, .bool false], .agg #[.bool false, .slice none 0 0, .slice none 0 0, .bool false], .agg #[.bool false, .slice none 0 0, .slice none 0 0, .bool false]], []⟩ 8 (by kernel_rfl) (by kernel_rfl) (by kernel_rfl) (by kernel_rfl)) ?_
  intro W base args ds gs before hval0 hW _ _
  have hval : ∀ (j : Nat) t v, Tryz.f3.params[j]? = some t → args[j]? = some v → Value.okWide Tryz.prog W .any base t v := hval0
  have hW' := hW
  obtain ⟨p, q, hA0, hV, rfl, hfz, hnd⟩ := hW
  have hA : DataW.TrodAll enc Tryz.prog W 0 (fun _ => true) true Tryz.f3.params.toList args.toList ds p := hA0
  rw [Tryz.params3] at hA hval
  obtain ⟨v0, v1, v2, d0, d1, d2, p0, p1, p2, rfl, rfl, rfl, h0, h1, h2⟩ := trodAll_three hA
  obtain ⟨rfl, rfl⟩ := trodVars_none hV
  obtain ⟨b, A, n, c, D, m, e, ra, k, x, rfl, Ha⟩ := turn_open (hval 0 _ v0 rfl rfl) h0
  obtain ⟨b', A', n', c', D', m', e', rb, k', x', rfl, Hb⟩ := turn_open (hval 1 _ v1 rfl rfl) h1
  obtain ⟨b2, A2, n2, c2, D2, m2, e2, rc, k2, x2, rfl, Hc⟩ := turn_open (hval 2 _ v2 rfl rfl) h2
  refine (l_TurnArcs W b A n c D m e ra k Ha b' A' n' c' D' m' e' rb k' Hb b2 A2 n2 c2 D2 m2 e2 rc k2 Hc x x' x2).mono fun e W' ⟨he, hb⟩ => ?_
  subst he
  exact ⟨_, rfl, law_post laid_out Tryz.underlying4 hW' rfl rfl (by kernel_rfl) rfl rfl rfl hb⟩
theorem arcs_holds : Rows.TurnArcsSaid :=
  OpenClaim.holds_of_wide 3 Tryz.f3 rfl rfl rfl rfl rfl rfl rfl ⟨rfl, rfl, rfl, rfl, rfl⟩ rfl rfl rfl rfl rfl (by kernel_rfl) Tryz.func3 (by kernel_rfl)
    (of_decide_eq_true (by kernel_rfl)) (by unfold Func.isWrapper; rw [if_neg (of_decide_eq_false (by kernel_rfl))]; exact ⟨rfl, rfl⟩)
    (fun os started H enc _ => arcs_lifted os started H enc)
end Go.Proofs.YtmneloabphplmaaGreat
