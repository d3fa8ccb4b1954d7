/- Part MM3: lemmas and walks that the claim rests on. No claim is made here. -/
import Derived.Deep.RegionHeld3
import Derived.Deep.DrawnRows
import Derived.Test.YtianjkiakkclgaaGreatDoorProg
import Derived.WalkKit
import Derived.WalkSpells
import Derived.WalkLawsBesides
import Derived.BigQuiet
import Derived.Deep.QuietTactic
import Derived.Deep.AppendLies
import Derived.Lib.Hide
import Derived.Laws.OwnMore
import Derived.Test.YtianjkiakkclgaaGreatDoorMM2
set_option linter.unusedVariables false
set_option maxHeartbeats 8000000
set_option maxRecDepth 100000
/- Walks: sums of turns. -/
namespace Go.Proofs.YtianjkiakkclgaaGreatDoor
open Go Go.RowKit Bn
attribute [local go_sem ↓] Go.wp_at_zero Go.wp_at_succ
theorem QK.qv {w : World} {b : Bool} {A D : Option Addr} {n c m e k : Nat} {q : Rat} (h : QK w b A n c D m e q k) : QV w b A n c D m e q k := by
  obtain ⟨a, h1, rfl, h2⟩ := h
  unfold QV; rw [rd_of_ok h1.2.1.1 h1.2.2.1.1 h2]; exact h1
theorem TK.tv {w : World} {b x : Bool} {A D : Option Addr} {n c m e k : Nat} {t : TN} (h : TK w b A n c D m e x t k) : TV w b A n c D m e x t k := ⟨h.1.qv, h.2⟩
theorem tv_zero (w : World) (k : Nat) : TV w false none 0 0 none 0 0 false tzero k := ⟨QV.zero _ _, rfl, tzero_ok⟩
theorem tv_mk {w : World} {b : Bool} {A D : Option Addr} {n c m e k : Nat} {q : Rat} (h : QV w b A n c D m e q k) : TV w b A n c D m e false ⟨q, false⟩ k := ⟨h, rfl, fun h => nomatch h⟩
theorem sgn_ne {q : Rat} {s : Int} (hs : q.num.sign = s) (h : q ≠ 0) : ((s : Int) == 0) = false := by
  simp; rintro rfl; exact h (Rat.num_eq_zero.1 (Int.sign_eq_zero_iff_zero.1 hs))
theorem sgn_eq {q : Rat} (h : q = 0) : q.num.sign = 0 := by rw [h]; rfl
theorem t_add_tt (w : World) (b : Bool) (A : Option Addr) (n c : Nat) (D : Option Addr) (m e : Nat) (t : TN) (k : Nat) (h : TK w b A n c D m e true t k) (b' : Bool) (A' : Option Addr) (n' c' : Nat) (D' : Option Addr) (m' e' : Nat) (t' : TN) (k' : Nat) (h' : TK w b' A' n' c' D' m' e' true t' k') (h0 : 0 < k) (hk : k ≤ 1000000) (h0' : 0 < k') (hk' : k' ≤ 1000000)  :
  Calls Tryz.prog 46 #[.agg #[.bool b, .slice A n c, .slice D m e, .bool true], .agg #[.bool b', .slice A' n' c', .slice D' m' e', .bool true]] w (RetT w (tadd t t') (2 * k + 2 * k' + 3)) := by
 rw [show tadd t t' = tzero by unfold tadd tadd1; simp [← h.2.1, ← h'.2.1]]
 go_enter Tryz.func46, Tryz.ntmps46
 go_wp2_with fail
 refine bodyPost_ret (v := .agg #[.bool false, .slice none 0 0, .slice none 0 0, .bool false]) (by simp [results, Tryz.results46, go_sem, *] <;> trivial) rfl ?_
 exact ⟨false, none, 0, 0, none, 0, 0, false, rfl, tv_zero _ _, ((((brefl w).alloc (by first | omega | (simp <;> omega)) (.cells #[.bool b, .slice A n c, .slice D m e, .bool true] 28)).alloc (by first | omega | (simp <;> omega)) (.cells #[.bool b', .slice A' n' c', .slice D' m' e', .bool true] 28)).alloc (by first | omega | (simp <;> omega)) (.cells #[.bool false, .slice none 0 0, .slice none 0 0, .bool false] 28))⟩
theorem t_add_tf0 (w : World) (b : Bool) (A : Option Addr) (n c : Nat) (D : Option Addr) (m e : Nat) (t : TN) (k : Nat) (h : TK w b A n c D m e true t k) (b' : Bool) (A' : Option Addr) (n' c' : Nat) (D' : Option Addr) (m' e' : Nat) (t' : TN) (k' : Nat) (h' : TK w b' A' n' c' D' m' e' false t' k') (h0 : 0 < k) (hk : k ≤ 1000000) (h0' : 0 < k') (hk' : k' ≤ 1000000) (hz : t'.t = 0) :
  Calls Tryz.prog 46 #[.agg #[.bool b, .slice A n c, .slice D m e, .bool true], .agg #[.bool b', .slice A' n' c', .slice D' m' e', .bool false]] w (RetT w (tadd t t') (2 * k + 2 * k' + 3)) := by
 rw [show tadd t t' = t by rcases t with ⟨q, x⟩; unfold tadd tadd1 thalf; simp only; have h1 := h.2.1; have h2 := h.2.2; have h3 := h'.2.1; simp only at h1; subst h1; simp [← h3, hz]; exact (h2 rfl).symm]
 have HZ := Lib.hid (sgn_eq hz)
 clear hz
 go_enter Tryz.func46, Tryz.ntmps46
 go_wp2_with fail
 (with_reducible refine (f_sign_e _ b' A' n' c' D' m' e' ((t').t) (k') ?_ (0) ?_ ?_ ?_).mono ?_); (exact (h'.belw ((((Below.refl _ _).alloc (Nat.le_refl _) _).alloc (by simp) _).alloc (by simp <;> omega) _)).qz); (exact HZ.out); (omega); (omega); rintro e w1 ⟨rfl, hb1⟩
 have q1 := hb1.q3
 replace h := h.belw q1
 replace h' := h'.belw q1
 have x1a : Blk w1 w.heap.size 28 #[.bool b, .slice A n c, .slice D m e, .bool true] := (((blkAt _ _ _ (by simp)).alloc _).alloc _).below hb1 (by simp <;> omega)
 have x1b := ((blkAt _ _ _ (g := w.heap.size + 1) (by simp)).alloc _).below hb1 (by simp <;> omega)
 have x1c := (blkAt _ _ _ (g := w.heap.size + 1 + 1) (by simp)).below hb1 (by simp)
 have bw1 := (brefl w).trans (q1.mono (brefl w).size)
 have lw1 := hb1.l3
 clear q1
 have cx1a := x1a.c4
 have lx1a := lts0 x1a.lt
 have cx1c := x1c.c4
 have fx1c := x1c.f4
 have lx1c := lts2 x1c.lt
 go_wp2_with fail
 refine bodyPost_ret (v := .agg #[.bool b, .slice A n c, .slice D m e, .bool true]) (by simp [results, Tryz.results46, go_sem, *] <;> trivial) rfl ?_
 have kp := (((((Kp.refl w1).sb (w.heap.size + 1 + 1) 0 x1c.box (by decide) (.bool b)).sb (w.heap.size + 1 + 1) 1 (x1c.box.set ⟨w.heap.size + 1 + 1, 0, none⟩ (.bool b)) (by decide) (.slice A n c)).sb (w.heap.size + 1 + 1) 2 ((x1c.box.set ⟨w.heap.size + 1 + 1, 0, none⟩ (.bool b)).set ⟨w.heap.size + 1 + 1, 1, none⟩ (.slice A n c)) (by decide) (.slice D m e)).sb (w.heap.size + 1 + 1) 3 (((x1c.box.set ⟨w.heap.size + 1 + 1, 0, none⟩ (.bool b)).set ⟨w.heap.size + 1 + 1, 1, none⟩ (.slice A n c)).set ⟨w.heap.size + 1 + 1, 2, none⟩ (.slice D m e)) (by decide) (.bool true))
 exact ⟨b, A, n, c, D, m, e, true, rfl, (h.tv.keep kp).mono (by omega), ((((bw1.sc (w.heap.size + 1 + 1) 0 (by omega) (.bool b)).sc (w.heap.size + 1 + 1) 1 (by omega) (.slice A n c)).sc (w.heap.size + 1 + 1) 2 (by omega) (.slice D m e)).sc (w.heap.size + 1 + 1) 3 (by omega) (.bool true))⟩
theorem t_add_tf1 (w : World) (b : Bool) (A : Option Addr) (n c : Nat) (D : Option Addr) (m e : Nat) (t : TN) (k : Nat) (h : TK w b A n c D m e true t k) (b' : Bool) (A' : Option Addr) (n' c' : Nat) (D' : Option Addr) (m' e' : Nat) (t' : TN) (k' : Nat) (h' : TK w b' A' n' c' D' m' e' false t' k') (h0 : 0 < k) (hk : k ≤ 1000000) (h0' : 0 < k') (hk' : k' ≤ 1000000) (hz : t'.t ≠ 0) :
    Calls Tryz.prog 46 #[.agg #[.bool b, .slice A n c, .slice D m e, .bool true], .agg #[.bool b', .slice A' n' c', .slice D' m' e', .bool false]] w (RetT w (tadd t t') (2 * k + 2 * k' + 3)) := by
  have HT := Lib.hid (show tadd t t' = ⟨((-1 : Int) : Rat) / t'.t, false⟩ by unfold tadd tadd1; simp [← h.2.1, ← h'.2.1, hz])
  obtain ⟨s, hs⟩ : ∃ s, t'.t.num.sign = s := ⟨_, rfl⟩
  have e0 := sgn_ne hs hz
  have HZ := Lib.hid hs
  have HNE := Lib.hid hz
  clear hz hs
  go_enter Tryz.func46, Tryz.ntmps46
  go_wp2_with fail
  (with_reducible refine (f_sign_e _ b' A' n' c' D' m' e' ((t').t) (k') ?_ (s) ?_ ?_ ?_).mono ?_); (exact (h'.belw ((((Below.refl _ _).alloc (Nat.le_refl _) _).alloc (by simp) _).alloc (by simp <;> omega) _)).qz); (exact HZ.out); (omega); (omega); rintro e w1 ⟨rfl, hb1⟩
  have q1 := hb1.q3
  replace h := h.belw q1
  replace h' := h'.belw q1
  have x1a : Blk w1 w.heap.size 28 #[.bool b, .slice A n c, .slice D m e, .bool true] := (((blkAt _ _ _ (by simp)).alloc _).alloc _).below hb1 (by simp <;> omega)
  have x1b := ((blkAt _ _ _ (g := w.heap.size + 1) (by simp)).alloc _).below hb1 (by simp <;> omega)
  have x1c := (blkAt _ _ _ (g := w.heap.size + 1 + 1) (by simp)).below hb1 (by simp)
  have bw1 := (brefl w).trans (q1.mono (brefl w).size)
  have lw1 := hb1.l3
  clear q1
  have cx1a := x1a.c4
  have lx1a := lts0 x1a.lt
  have cx1b := x1b.c4
  have lx1b := lts1 x1b.lt
  obtain ⟨cx1ca, cx1cb, cx1cc, cx1cd⟩ := x1c.c4
  obtain ⟨fx1ca, fx1cb, fx1cc, fx1cd⟩ := x1c.f4
  have lx1c := lts2 x1c.lt
  go_wp2_with fail
  have nfx1_0_0 : ¬ w.heap.size = w.heap.size + 1 + 1 := by omega
  have nex1_0_0 : ¬ w.heap.size = w.heap.size + 2 := by omega
  have nfx1_1_0 : ¬ w.heap.size + 1 = w.heap.size + 1 + 1 := by omega
  have nex1_1_0 : ¬ w.heap.size = w.heap.size + 1 := by omega
  go_region_held3 (fun w' => SeesX w1.heap.size (w.heap.size + 1 + 1) w1 w') (first | with_reducible exact SeesX.of (Nat.le_refl _) (by assumption) | with_reducible exact SeesX.of (Nat.le_refl _) (brefl _).drew | with_reducible exact (SeesX.set (SeesX.set (SeesX.set (SeesX.set (SeesX.of (Nat.le_refl _) (by assumption)))))) | with_reducible exact (SeesX.set (SeesX.set (SeesX.set (SeesX.of (Nat.le_refl _) (by assumption))))) | with_reducible exact (SeesX.set (SeesX.set (SeesX.of (Nat.le_refl _) (by assumption)))) | with_reducible exact (SeesX.set (SeesX.of (Nat.le_refl _) (by assumption))) | exact SeesX.of (Nat.le_refl _) (below_drewN (brefl _) 1) | exact SeesX.of (Nat.le_refl _) (below_drewN (by assumption) _))
    (first
      | (go_at_call 25; (with_reducible refine (f_of _ ((-1)) ?_ ?_).mono ?_); (omega); (omega); rintro e w2 ⟨b2, A2, n2, c2, A'2, n'2, c'2, rfl, h2, hb2⟩; replace hb2 := bnext (below_drewN (brefl _) 1) hb2; have q2 : Below w1.heap.size w1 w2 := bnext (brefl w1) hb2; replace h := h.belw hb2; replace h' := h'.belw hb2)
      | (go_at_call 28; (with_reducible refine (t_over _ b2 A2 n2 c2 A'2 n'2 c'2 ((((-1) : Int) : Rat)) (1) ?_ b' A' n' c' D' m' e' ((t').t) (k') ?_ ?_ ?_ ?_ ?_ ?_).mono ?_); (exact h2.qz); (exact h'.qz); (omega); (omega); (omega); (omega); (exact HNE.out); rintro e w3 ⟨b3, A3, n3, c3, A'3, n'3, c'3, rfl, h3, hb3⟩; have q3 : Below w1.heap.size w1 w3 := bnext q2 hb3; replace h := h.belw hb3; replace h' := h'.belw hb3; replace h2 := h2.belw hb3; have x1c := x1c.b q3; obtain ⟨cx1ca, cx1cb, cx1cc, cx1cd⟩ := x1c.c4; obtain ⟨fx1ca, fx1cb, fx1cc, fx1cd⟩ := x1c.f4))
  have bw3 := bw1.trans (q3.mono bw1.size)
  clear cx1a lx1a cx1b lx1b cx1ca fx1ca cx1cb fx1cb cx1cc fx1cc cx1cd fx1cd lx1c
  replace x1a := x1a.b q3
  replace x1b := x1b.b q3
  have lw3 := q3.size
  obtain ⟨cx1ca, cx1cb, cx1cc, cx1cd⟩ := x1c.c4
  obtain ⟨fx1ca, fx1cb, fx1cc, fx1cd⟩ := x1c.f4
  go_wp2_with fail
  rw [HT.out]
  refine bodyPost_ret (v := .agg #[.bool b3, .slice A3 n3 c3, .slice A'3 n'3 c'3, .bool false]) (by simp [results, Tryz.results46, go_sem, *] <;> trivial) rfl ?_
  have kp := (((((Kp.refl w3).sb (w.heap.size + 1 + 1) 0 x1c.box (by decide) (.bool b3)).sb (w.heap.size + 1 + 1) 1 (x1c.box.set ⟨w.heap.size + 1 + 1, 0, none⟩ (.bool b3)) (by decide) (.slice A3 n3 c3)).sb (w.heap.size + 1 + 1) 2 ((x1c.box.set ⟨w.heap.size + 1 + 1, 0, none⟩ (.bool b3)).set ⟨w.heap.size + 1 + 1, 1, none⟩ (.slice A3 n3 c3)) (by decide) (.slice A'3 n'3 c'3)).sb (w.heap.size + 1 + 1) 3 (((x1c.box.set ⟨w.heap.size + 1 + 1, 0, none⟩ (.bool b3)).set ⟨w.heap.size + 1 + 1, 1, none⟩ (.slice A3 n3 c3)).set ⟨w.heap.size + 1 + 1, 2, none⟩ (.slice A'3 n'3 c'3)) (by decide) (.bool false))
  exact ⟨b3, A3, n3, c3, A'3, n'3, c'3, false, rfl, (tv_mk (h3.keep kp)).mono (by omega), ((((bw3.sc (w.heap.size + 1 + 1) 0 (by omega) (.bool b3)).sc (w.heap.size + 1 + 1) 1 (by omega) (.slice A3 n3 c3)).sc (w.heap.size + 1 + 1) 2 (by omega) (.slice A'3 n'3 c'3)).sc (w.heap.size + 1 + 1) 3 (by omega) (.bool false))⟩
theorem t_add_tf (w : World) (b : Bool) (A : Option Addr) (n c : Nat) (D : Option Addr) (m e : Nat) (t : TN) (k : Nat) (h : TK w b A n c D m e true t k) (b' : Bool) (A' : Option Addr) (n' c' : Nat) (D' : Option Addr) (m' e' : Nat) (t' : TN) (k' : Nat) (h' : TK w b' A' n' c' D' m' e' false t' k') (h0 : 0 < k) (hk : k ≤ 1000000) (h0' : 0 < k') (hk' : k' ≤ 1000000) : Calls Tryz.prog 46 #[.agg #[.bool b, .slice A n c, .slice D m e, .bool true], .agg #[.bool b', .slice A' n' c', .slice D' m' e', .bool false]] w (RetT w (tadd t t') (2 * k + 2 * k' + 3)) := by
  by_cases hz : t'.t = 0
  · exact t_add_tf0 w b A n c D m e t k h b' A' n' c' D' m' e' t' k' h' h0 hk h0' hk' hz
  · exact t_add_tf1 w b A n c D m e t k h b' A' n' c' D' m' e' t' k' h' h0 hk h0' hk' hz
theorem t_add_ft (w : World) (b : Bool) (A : Option Addr) (n c : Nat) (D : Option Addr) (m e : Nat) (t : TN) (k : Nat) (h : TK w b A n c D m e false t k) (b' : Bool) (A' : Option Addr) (n' c' : Nat) (D' : Option Addr) (m' e' : Nat) (t' : TN) (k' : Nat) (h' : TK w b' A' n' c' D' m' e' true t' k') (h0 : 0 < k) (hk : k ≤ 1000000) (h0' : 0 < k') (hk' : k' ≤ 1000000)  :
  Calls Tryz.prog 46 #[.agg #[.bool b, .slice A n c, .slice D m e, .bool false], .agg #[.bool b', .slice A' n' c', .slice D' m' e', .bool true]] w (RetT w (tadd t t') (2 * k + 2 * k' + 3)) := by
 have HT := Lib.hid (tadd_comm h.2.2 h'.2.2)
 go_enter Tryz.func46, Tryz.ntmps46
 go_wp2_with fail
 (with_reducible refine (t_add_tf _ b' A' n' c' D' m' e' (t') (k') ?_ b A n c D m e (t) (k) ?_ ?_ ?_ ?_ ?_).mono ?_); (exact (h'.belw ((((Below.refl _ _).alloc (Nat.le_refl _) _).alloc (by simp) _).alloc (by simp <;> omega) _))); (exact (h.belw ((((Below.refl _ _).alloc (Nat.le_refl _) _).alloc (by simp) _).alloc (by simp <;> omega) _))); (omega); (omega); (omega); (omega); rintro e w1 ⟨b1, A1, n1, c1, A'1, n'1, c'1, x1, rfl, h1, hb1⟩
 have q1 := hb1.q3
 replace h := h.belw q1
 replace h' := h'.belw q1
 have x1a : Blk w1 w.heap.size 28 #[.bool b, .slice A n c, .slice D m e, .bool false] := (((blkAt _ _ _ (by simp)).alloc _).alloc _).below hb1 (by simp <;> omega)
 have x1b := ((blkAt _ _ _ (g := w.heap.size + 1) (by simp)).alloc _).below hb1 (by simp <;> omega)
 have x1c := (blkAt _ _ _ (g := w.heap.size + 1 + 1) (by simp)).below hb1 (by simp)
 have bw1 := (brefl w).trans (q1.mono (brefl w).size)
 have lw1 := hb1.l3
 clear q1
 have cx1c := x1c.c4
 have fx1c := x1c.f4
 have lx1c := lts2 x1c.lt
 go_wp2_with fail
 rw [HT.out]
 refine bodyPost_ret (v := .agg #[.bool b1, .slice A1 n1 c1, .slice A'1 n'1 c'1, .bool x1]) (by simp [results, Tryz.results46, go_sem, *] <;> trivial) rfl ?_
 have kp := (((((Kp.refl w1).sb (w.heap.size + 1 + 1) 0 x1c.box (by decide) (.bool b1)).sb (w.heap.size + 1 + 1) 1 (x1c.box.set ⟨w.heap.size + 1 + 1, 0, none⟩ (.bool b1)) (by decide) (.slice A1 n1 c1)).sb (w.heap.size + 1 + 1) 2 ((x1c.box.set ⟨w.heap.size + 1 + 1, 0, none⟩ (.bool b1)).set ⟨w.heap.size + 1 + 1, 1, none⟩ (.slice A1 n1 c1)) (by decide) (.slice A'1 n'1 c'1)).sb (w.heap.size + 1 + 1) 3 (((x1c.box.set ⟨w.heap.size + 1 + 1, 0, none⟩ (.bool b1)).set ⟨w.heap.size + 1 + 1, 1, none⟩ (.slice A1 n1 c1)).set ⟨w.heap.size + 1 + 1, 2, none⟩ (.slice A'1 n'1 c'1)) (by decide) (.bool x1))
 exact ⟨b1, A1, n1, c1, A'1, n'1, c'1, x1, rfl, (h1.keep kp).mono (by omega), ((((bw1.sc (w.heap.size + 1 + 1) 0 (by omega) (.bool b1)).sc (w.heap.size + 1 + 1) 1 (by omega) (.slice A1 n1 c1)).sc (w.heap.size + 1 + 1) 2 (by omega) (.slice A'1 n'1 c'1)).sc (w.heap.size + 1 + 1) 3 (by omega) (.bool x1))⟩
theorem t_add_ff0 (w : World) (b : Bool) (A : Option Addr) (n c : Nat) (D : Option Addr) (m e : Nat) (t : TN) (k : Nat) (h : TK w b A n c D m e false t k) (b' : Bool) (A' : Option Addr) (n' c' : Nat) (D' : Option Addr) (m' e' : Nat) (t' : TN) (k' : Nat) (h' : TK w b' A' n' c' D' m' e' false t' k') (h0 : 0 < k) (hk : k ≤ 1000000) (h0' : 0 < k') (hk' : k' ≤ 1000000) (hz : ((1 : Int) : Rat) - t.t * t'.t = 0) :
    Calls Tryz.prog 46 #[.agg #[.bool b, .slice A n c, .slice D m e, .bool false], .agg #[.bool b', .slice A' n' c', .slice D' m' e', .bool false]] w (RetT w (tadd t t') (2 * k + 2 * k' + 3)) := by
  rw [show tadd t t' = thalf by unfold tadd tadd1; have hz' : 1 - t.t * t'.t = 0 := hz; simp [← h.2.1, ← h'.2.1, hz']]
  have HZ := Lib.hid (sgn_eq hz)
  clear hz
  go_enter Tryz.func46, Tryz.ntmps46
  go_wp2_with fail
  have p1 := ((((Kp.refl w).alloc (.cells #[.bool b, .slice A n c, .slice D m e, .bool false] 28)).alloc (.cells #[.bool b', .slice A' n' c', .slice D' m' e', .bool false] 28)).alloc (.cells #[.bool false, .slice none 0 0, .slice none 0 0, .bool false] 28))
  have bw1 := ((((brefl w).alloc (by first | omega | (simp <;> omega)) (.cells #[.bool b, .slice A n c, .slice D m e, .bool false] 28)).alloc (by first | omega | (simp <;> omega)) (.cells #[.bool b', .slice A' n' c', .slice D' m' e', .bool false] 28)).alloc (by first | omega | (simp <;> omega)) (.cells #[.bool false, .slice none 0 0, .slice none 0 0, .bool false] 28))
  have x1a : Blk (((w.alloc (.cells #[.bool b, .slice A n c, .slice D m e, .bool false] 28)).alloc (.cells #[.bool b', .slice A' n' c', .slice D' m' e', .bool false] 28)).alloc (.cells #[.bool false, .slice none 0 0, .slice none 0 0, .bool false] 28)) w.heap.size 28 #[.bool b, .slice A n c, .slice D m e, .bool false] := (((blkAt _ _ _ (by simp)).alloc (.cells #[.bool b', .slice A' n' c', .slice D' m' e', .bool false] 28)).alloc (.cells #[.bool false, .slice none 0 0, .slice none 0 0, .bool false] 28))
  have x1b : Blk (((w.alloc (.cells #[.bool b, .slice A n c, .slice D m e, .bool false] 28)).alloc (.cells #[.bool b', .slice A' n' c', .slice D' m' e', .bool false] 28)).alloc (.cells #[.bool false, .slice none 0 0, .slice none 0 0, .bool false] 28)) (w.heap.size + 1) 28 #[.bool b', .slice A' n' c', .slice D' m' e', .bool false] := ((blkAt _ _ _ (by simp)).alloc (.cells #[.bool false, .slice none 0 0, .slice none 0 0, .bool false] 28))
  have x1c : Blk (((w.alloc (.cells #[.bool b, .slice A n c, .slice D m e, .bool false] 28)).alloc (.cells #[.bool b', .slice A' n' c', .slice D' m' e', .bool false] 28)).alloc (.cells #[.bool false, .slice none 0 0, .slice none 0 0, .bool false] 28)) (w.heap.size + 1 + 1) 28 #[.bool false, .slice none 0 0, .slice none 0 0, .bool false] := (blkAt _ _ _ (by simp))
  have lw1 : w.heap.size + 3 ≤ (((w.alloc (.cells #[.bool b, .slice A n c, .slice D m e, .bool false] 28)).alloc (.cells #[.bool b', .slice A' n' c', .slice D' m' e', .bool false] 28)).alloc (.cells #[.bool false, .slice none 0 0, .slice none 0 0, .bool false] 28)).heap.size := by simp
  generalize hE1 : (((w.alloc (.cells #[.bool b, .slice A n c, .slice D m e, .bool false] 28)).alloc (.cells #[.bool b', .slice A' n' c', .slice D' m' e', .bool false] 28)).alloc (.cells #[.bool false, .slice none 0 0, .slice none 0 0, .bool false] 28)) = w1 at p1 bw1 lw1 x1a x1b x1c ⊢
  clear hE1
  replace h := h.keep p1
  replace h' := h'.keep p1
  have cx1a := x1a.c4
  have lx1a := lts0 x1a.lt
  have cx1b := x1b.c4
  have lx1b := lts1 x1b.lt
  refine wp_region_lin (B := w.heap.size) (fr := fun xf => ⟨#[.agg #[.bool b, .slice A n c, .slice D m e, .bool false], .agg #[.bool b', .slice A' n' c', .slice D' m' e', .bool false], .pointer (some ⟨w.heap.size, 0, none⟩), .pointer (some ⟨w.heap.size + 1, 0, none⟩), .pointer (some ⟨w.heap.size + 1 + 1, 0, none⟩), xf 7, _, .pointer (some ⟨w.heap.size, 3, none⟩), .bool false, .bool false, _, _, _, undef, .bool false, .pointer (some ⟨w.heap.size + 1, 3, none⟩), .bool false, undef, undef, undef, _, .pointer (some ⟨w.heap.size, 3, none⟩), .bool false, .bool false, _, _, _, _, _, undef, .bool false, .pointer (some ⟨w.heap.size, 3, none⟩), .bool false, undef, undef, undef, undef, undef, xf 0, xf 1, xf 2, xf 3, xf 4, xf 5, xf 6, undef, undef, undef, undef, undef, undef, undef, undef, undef, undef, undef, undef], []⟩) (R := fun i => List.getD [VQ (((1 : Int) : Rat)) (1), PEq (.pointer (some ⟨w.heap.size, 0, none⟩)), PEq (.agg #[.bool b, .slice A n c, .slice D m e]), PEq (.pointer (some ⟨w.heap.size + 1, 0, none⟩)), PEq (.agg #[.bool b', .slice A' n' c', .slice D' m' e']), VQ (((t).t) * ((t').t)) ((k) + (k')), VQ ((((1 : Int) : Rat)) - (((t).t) * ((t').t))) ((1) + ((k) + (k')) + 1), PAny, PAny] i (fun _ _ => True)) (es := [⟨7, 8, 24, #[.bool false, .slice none 0 0, .slice none 0 0], CQ ((((1 : Int) : Rat)) - (((t).t) * ((t').t))) ((1) + ((k) + (k')) + 1)⟩]) (ow := [⟨w.heap.size, 9, 0, 28, #[.bool b, .slice A n c, .slice D m e, .bool false], CAny⟩, ⟨w.heap.size + 1, 9, 0, 28, #[.bool b', .slice A' n' c', .slice D' m' e', .bool false], CAny⟩, ⟨w.heap.size + 1 + 1, 9, 0, 28, #[.bool false, .slice none 0 0, .slice none 0 0, .bool false], CAny⟩]) (x0 := fun _ => undef) (by kernel_rfl)
    (each_of ⟨fun _ _ => rfl, fun _ _ => rfl, fun _ _ => rfl, fun _ _ => rfl, fun _ _ => rfl, fun _ _ => rfl, fun _ _ => rfl, fun _ _ => rfl, fun _ _ => rfl, trivial⟩) (each_of (acyc_from _ 0 (by kernel_rfl))) (AllStab.get _ ⟨stQ _ _, stEq _, stEq _, stEq _, stEq _, stQ _ _, stQ _ _, stAny, stAny, trivial⟩)
    (fmc ⟨scQ _ _, fun _ h => nomatch h⟩) (fmc ⟨scAny, fmc ⟨scAny, fmc ⟨scAny, fun _ h => nomatch h⟩⟩⟩) (fmc ⟨⟨by simp, by simp⟩, fun _ h => nomatch h⟩) bw1.size
    (fmc ⟨⟨x1a, by show w.heap.size ≤ w.heap.size; omega⟩, fmc ⟨⟨x1b, by show w.heap.size ≤ w.heap.size + 1; omega⟩, fmc ⟨⟨x1c, by show w.heap.size ≤ w.heap.size + 1 + 1; omega⟩, fun _ h => nomatch h⟩⟩⟩) (ownDist (by simp <;> omega))
    (each_of ⟨?_, ?_, ?_, ?_, ?_, ?_, ?_, ?_, ?_, trivial⟩) ?_
  · exact .inl ⟨by simp, by simp, fun xf wq hk hbl hd K hK => by
      (try dsimp only)
      go_simp
      go_at_call 25
      (with_reducible refine (f_of _ (1) ?_ ?_).mono ?_); (omega); (omega); rintro e wr ⟨b3, A3, n3, c3, A'3, n'3, c'3, rfl, h3, hbr⟩
      exact hK.out _ _ ⟨b3, A3, n3, c3, A'3, n'3, c'3, rfl, h3⟩ hbr⟩
  · exact .inl ⟨by simp, by simp, fun xf wq hk hbl hd K hK => by
      (try dsimp only)
      go_simp
      exact hK.out (.pointer (some ⟨w.heap.size, 0, none⟩)) _ rfl (brefl _)⟩
  · exact .inl ⟨by simp, by simp, fun xf wq hk hbl hd K hK => by
      have d1 : xf 1 = .pointer (some ⟨w.heap.size, 0, none⟩) := hd ⟨1, .data⟩ (by simp) rfl
      have y : Blk wq w.heap.size 28 #[.bool b, .slice A n c, .slice D m e, .bool false] := hbl _ (List.Mem.head _) (by simp [Region.binds])
      obtain ⟨c0, c1, c2, c3⟩ := y.c4
      (try dsimp only); (try simp only [d1])
      go_simp
      have hz := hK.out (.agg #[.bool b, .slice A n c, .slice D m e]) _ rfl (brefl _)
      simp only [d1] at hz
      exact hz⟩
  · exact .inl ⟨by simp, by simp, fun xf wq hk hbl hd K hK => by
      (try dsimp only)
      go_simp
      exact hK.out (.pointer (some ⟨w.heap.size + 1, 0, none⟩)) _ rfl (brefl _)⟩
  · exact .inl ⟨by simp, by simp, fun xf wq hk hbl hd K hK => by
      have d3 : xf 3 = .pointer (some ⟨w.heap.size + 1, 0, none⟩) := hd ⟨3, .data⟩ (by simp) rfl
      have y : Blk wq (w.heap.size + 1) 28 #[.bool b', .slice A' n' c', .slice D' m' e', .bool false] := hbl _ (List.Mem.tail _ (List.Mem.head _)) (by simp [Region.binds])
      obtain ⟨c0, c1, c2, c3⟩ := y.c4
      (try dsimp only); (try simp only [d3])
      go_simp
      have hz := hK.out (.agg #[.bool b', .slice A' n' c', .slice D' m' e']) _ rfl (brefl _)
      simp only [d3] at hz
      exact hz⟩
  · exact .inl ⟨by simp, by simp, fun xf wq hk hbl hd K hK => by
      have d2 : xf 2 = .agg #[.bool b, .slice A n c, .slice D m e] := hd ⟨2, .data⟩ (by simp) rfl
      have d4 : xf 4 = .agg #[.bool b', .slice A' n' c', .slice D' m' e'] := hd ⟨4, .data⟩ (by simp) rfl
      (try dsimp only); (try simp only [d2, d4])
      go_simp
      go_at_call 24
      (with_reducible refine (f_mul _ b A n c D m e ((t).t) (k) ?_ b' A' n' c' D' m' e' ((t').t) (k') ?_ ?_ ?_ ?_ ?_).mono ?_); (exact (h.keep hk).qz); (exact (h'.keep hk).qz); (omega); (omega); (omega); (omega); rintro e wr ⟨b4, A4, n4, c4, A'4, n'4, c'4, rfl, h4, hbr⟩
      have hz := hK.out _ _ ⟨b4, A4, n4, c4, A'4, n'4, c'4, rfl, h4⟩ hbr
      simp only [d2, d4] at hz
      exact hz⟩
  · exact .inl ⟨by simp, by simp, fun xf wq hk hbl hd K hK => by
      obtain ⟨b3, A3, n3, c3, A'3, n'3, c'3, d0, h3⟩ : VQ (((1 : Int) : Rat)) (1) (xf 0) wq := hd ⟨0, .data⟩ (by simp) rfl
      obtain ⟨b4, A4, n4, c4, A'4, n'4, c'4, d5, h4⟩ : VQ (((t).t) * ((t').t)) ((k) + (k')) (xf 5) wq := hd ⟨5, .data⟩ (by simp) rfl
      (try dsimp only); (try simp only [d0, d5])
      go_simp
      go_at_call 29
      (with_reducible refine (f_sub _ b3 A3 n3 c3 A'3 n'3 c'3 (((1 : Int) : Rat)) (1) ?_ b4 A4 n4 c4 A'4 n'4 c'4 (((t).t) * ((t').t)) ((k) + (k')) ?_ ?_ ?_ ?_ ?_).mono ?_); (exact h3.qz); (exact h4.qz); (omega); (omega); (omega); (omega); rintro e wr ⟨b5, A5, n5, c5, A'5, n'5, c'5, rfl, h5, hbr⟩
      have hz := hK.out _ _ ⟨b5, A5, n5, c5, A'5, n'5, c'5, rfl, h5⟩ hbr
      simp only [d0, d5] at hz
      exact hz⟩
  · exact .inr (.inl ⟨⟨7, 8, 24, #[.bool false, .slice none 0 0, .slice none 0 0], CQ ((((1 : Int) : Rat)) - (((t).t) * ((t').t))) ((1) + ((k) + (k')) + 1)⟩, by simp, rfl, by simp, by simp, by simp, fun _ _ => True.intro, fun xf wq K hK => by
      (try dsimp only)
      go_simp
      exact hK.out⟩)
  · exact .inr (.inr (.inl ⟨⟨7, 8, 24, #[.bool false, .slice none 0 0, .slice none 0 0], CQ ((((1 : Int) : Rat)) - (((t).t) * ((t').t))) ((1) + ((k) + (k')) + 1)⟩, by simp, rfl, by simp, by simp, by simp, by simp, (show KT 24 = false by decide), fun _ _ => True.intro, ⟨⟨7, .data⟩, by simp, rfl, rfl⟩, fun xf wq g hx hblk hd => by
      obtain ⟨b5, A5, n5, c5, A'5, n'5, c'5, d6, h5⟩ : VQ ((((1 : Int) : Rat)) - (((t).t) * ((t').t))) ((1) + ((k) + (k')) + 1) (xf 6) wq := hd ⟨6, .data⟩ (by simp) rfl
      dsimp only at hx hblk
      refine ⟨[.bool b5, .slice A5 n5 c5, .slice A'5 n'5 c'5], fun w' hk => ⟨b5, A5, n5, c5, A'5, n'5, c'5, rfl, h5.keep hk⟩, fun K hK => ?_⟩
      have hc0 : wq.cell? ⟨g, 0, none⟩ = some (.bool false) := hblk.cell 0
      have hc1 : wq.cell? ⟨g, 1, none⟩ = some (.slice none 0 0) := hblk.cell 1
      have hc2 : wq.cell? ⟨g, 2, none⟩ = some (.slice none 0 0) := hblk.cell 2
      have hf0 : wq.frozen? ⟨g, 0, none⟩ = false := hblk.frozen 0
      have hf1 : wq.frozen? ⟨g, 1, none⟩ = false := hblk.frozen 1
      have hf2 : wq.frozen? ⟨g, 2, none⟩ = false := hblk.frozen 2
      (try dsimp only)
      simp only [hx, d6]
      go_simp
      have hz := hK.out undef
      simp only [hx, d6] at hz
      exact hz⟩))
  clear cx1a lx1a cx1b lx1b
  intro y2 w2 kq2 hbl2 lw2 how hrr hfl hds
  replace h := h.keep kq2
  replace h' := h'.keep kq2
  obtain ⟨_, z2_0, ez, _⟩ := how _ (List.Mem.head _)
  obtain rfl := ez (by simp)
  dsimp only at z2_0
  obtain ⟨_, z2_1, ez, _⟩ := how _ (List.Mem.tail _ (List.Mem.head _))
  obtain rfl := ez (by simp)
  dsimp only at z2_1
  obtain ⟨_, z2_2, ez, _⟩ := how _ (List.Mem.tail _ (List.Mem.tail _ (List.Mem.head _)))
  obtain rfl := ez (by simp)
  dsimp only at z2_2
  obtain ⟨g5_2, _, eg5_2, Gg5_2, xg5_2, ⟨b5, A5, n5, c5, A'5, n'5, c'5, rfl, h5⟩⟩ := hfl _ (List.Mem.head _)
  dsimp only at eg5_2 Gg5_2 xg5_2
  have lgg5_2 : g5_2 < w2.heap.size := xg5_2.lt
  (try dsimp only)
  simp only [eg5_2]
  clear hrr hfl how hds eg5_2
  clear x1a x1b x1c
  have bw2 := bw1.trans hbl2
  clear bw1
  have cxg5_2_0 : w2.cell? ⟨g5_2, 0, none⟩ = some (.bool b5) := xg5_2.cell 0
  have cxg5_2_1 : w2.cell? ⟨g5_2, 1, none⟩ = some (.slice A5 n5 c5) := xg5_2.cell 1
  have cxg5_2_2 : w2.cell? ⟨g5_2, 2, none⟩ = some (.slice A'5 n'5 c'5) := xg5_2.cell 2
  have lxg5_2 := lts0 xg5_2.lt
  go_wp2_with fail
  (with_reducible refine (f_sign_e _ b5 A5 n5 c5 A'5 n'5 c'5 ((((1 : Int) : Rat)) - (((t).t) * ((t').t))) ((1) + ((k) + (k')) + 1) ?_ (0) ?_ ?_ ?_).mono ?_); (exact h5.qz); (exact HZ.out); (omega); (omega); rintro e w7 ⟨rfl, q7⟩
  clear cxg5_2_0 cxg5_2_1 cxg5_2_2 lxg5_2
  replace h := h.belw q7
  replace h' := h'.belw q7
  replace h5 := h5.belw q7
  replace z2_0 := z2_0.b q7
  replace z2_1 := z2_1.b q7
  replace z2_2 := z2_2.b q7
  replace xg5_2 := xg5_2.b q7
  have bw7 := bw2.trans (q7.mono bw2.size)
  have lw7 := q7.size
  clear q7 bw2
  go_wp2_with fail
  (with_reducible refine (t_half _).mono ?_); rintro e w8 ⟨b8, A8, n8, c8, A'8, n'8, c'8, x8, rfl, h8, q8⟩
  replace h := h.belw q8
  replace h' := h'.belw q8
  replace h5 := h5.belw q8
  replace z2_0 := z2_0.b q8
  replace z2_1 := z2_1.b q8
  replace z2_2 := z2_2.b q8
  replace xg5_2 := xg5_2.b q8
  have bw8 := bw7.trans (q8.mono bw7.size)
  have lw8 := q8.size
  clear q8 bw7
  have cz2_2 := z2_2.c4
  have fz2_2 := z2_2.f4
  have lz2_2 := lts2 z2_2.lt
  go_wp2_with fail
  refine bodyPost_ret (v := .agg #[.bool b8, .slice A8 n8 c8, .slice A'8 n'8 c'8, .bool x8]) (by simp [results, Tryz.results46, go_sem, *] <;> trivial) rfl ?_
  have kp := (((((Kp.refl w8).sb (w.heap.size + 1 + 1) 0 z2_2.box (by decide) (.bool b8)).sb (w.heap.size + 1 + 1) 1 (z2_2.box.set ⟨w.heap.size + 1 + 1, 0, none⟩ (.bool b8)) (by decide) (.slice A8 n8 c8)).sb (w.heap.size + 1 + 1) 2 ((z2_2.box.set ⟨w.heap.size + 1 + 1, 0, none⟩ (.bool b8)).set ⟨w.heap.size + 1 + 1, 1, none⟩ (.slice A8 n8 c8)) (by decide) (.slice A'8 n'8 c'8)).sb (w.heap.size + 1 + 1) 3 (((z2_2.box.set ⟨w.heap.size + 1 + 1, 0, none⟩ (.bool b8)).set ⟨w.heap.size + 1 + 1, 1, none⟩ (.slice A8 n8 c8)).set ⟨w.heap.size + 1 + 1, 2, none⟩ (.slice A'8 n'8 c'8)) (by decide) (.bool x8))
  exact ⟨b8, A8, n8, c8, A'8, n'8, c'8, x8, rfl, (h8.keep kp).mono (by omega), ((((bw8.sc (w.heap.size + 1 + 1) 0 (by omega) (.bool b8)).sc (w.heap.size + 1 + 1) 1 (by omega) (.slice A8 n8 c8)).sc (w.heap.size + 1 + 1) 2 (by omega) (.slice A'8 n'8 c'8)).sc (w.heap.size + 1 + 1) 3 (by omega) (.bool x8))⟩
theorem t_add_ff1 (w : World) (b : Bool) (A : Option Addr) (n c : Nat) (D : Option Addr) (m e : Nat) (t : TN) (k : Nat) (h : TK w b A n c D m e false t k) (b' : Bool) (A' : Option Addr) (n' c' : Nat) (D' : Option Addr) (m' e' : Nat) (t' : TN) (k' : Nat) (h' : TK w b' A' n' c' D' m' e' false t' k') (h0 : 0 < k) (hk : k ≤ 1000000) (h0' : 0 < k') (hk' : k' ≤ 1000000) (hz : ((1 : Int) : Rat) - t.t * t'.t ≠ 0) :
    Calls Tryz.prog 46 #[.agg #[.bool b, .slice A n c, .slice D m e, .bool false], .agg #[.bool b', .slice A' n' c', .slice D' m' e', .bool false]] w (RetT w (tadd t t') (2 * k + 2 * k' + 3)) := by
  have HT := Lib.hid (show tadd t t' = ⟨(t.t + t'.t) / (((1 : Int) : Rat) - t.t * t'.t), false⟩ by unfold tadd tadd1; have hz' : ¬ (1 - t.t * t'.t = 0) := hz; simp [← h.2.1, ← h'.2.1, hz'])
  obtain ⟨s, hs⟩ : ∃ s, (((1 : Int) : Rat) - t.t * t'.t).num.sign = s := ⟨_, rfl⟩
  have e0 := sgn_ne hs hz
  have HZ := Lib.hid hs
  have HNE := Lib.hid hz
  clear hz hs
  go_enter Tryz.func46, Tryz.ntmps46
  go_wp2_with fail
  have p1 := ((((Kp.refl w).alloc (.cells #[.bool b, .slice A n c, .slice D m e, .bool false] 28)).alloc (.cells #[.bool b', .slice A' n' c', .slice D' m' e', .bool false] 28)).alloc (.cells #[.bool false, .slice none 0 0, .slice none 0 0, .bool false] 28))
  have bw1 := ((((brefl w).alloc (by first | omega | (simp <;> omega)) (.cells #[.bool b, .slice A n c, .slice D m e, .bool false] 28)).alloc (by first | omega | (simp <;> omega)) (.cells #[.bool b', .slice A' n' c', .slice D' m' e', .bool false] 28)).alloc (by first | omega | (simp <;> omega)) (.cells #[.bool false, .slice none 0 0, .slice none 0 0, .bool false] 28))
  have x1a : Blk (((w.alloc (.cells #[.bool b, .slice A n c, .slice D m e, .bool false] 28)).alloc (.cells #[.bool b', .slice A' n' c', .slice D' m' e', .bool false] 28)).alloc (.cells #[.bool false, .slice none 0 0, .slice none 0 0, .bool false] 28)) w.heap.size 28 #[.bool b, .slice A n c, .slice D m e, .bool false] := (((blkAt _ _ _ (by simp)).alloc (.cells #[.bool b', .slice A' n' c', .slice D' m' e', .bool false] 28)).alloc (.cells #[.bool false, .slice none 0 0, .slice none 0 0, .bool false] 28))
  have x1b : Blk (((w.alloc (.cells #[.bool b, .slice A n c, .slice D m e, .bool false] 28)).alloc (.cells #[.bool b', .slice A' n' c', .slice D' m' e', .bool false] 28)).alloc (.cells #[.bool false, .slice none 0 0, .slice none 0 0, .bool false] 28)) (w.heap.size + 1) 28 #[.bool b', .slice A' n' c', .slice D' m' e', .bool false] := ((blkAt _ _ _ (by simp)).alloc (.cells #[.bool false, .slice none 0 0, .slice none 0 0, .bool false] 28))
  have x1c : Blk (((w.alloc (.cells #[.bool b, .slice A n c, .slice D m e, .bool false] 28)).alloc (.cells #[.bool b', .slice A' n' c', .slice D' m' e', .bool false] 28)).alloc (.cells #[.bool false, .slice none 0 0, .slice none 0 0, .bool false] 28)) (w.heap.size + 1 + 1) 28 #[.bool false, .slice none 0 0, .slice none 0 0, .bool false] := (blkAt _ _ _ (by simp))
  have lw1 : w.heap.size + 3 ≤ (((w.alloc (.cells #[.bool b, .slice A n c, .slice D m e, .bool false] 28)).alloc (.cells #[.bool b', .slice A' n' c', .slice D' m' e', .bool false] 28)).alloc (.cells #[.bool false, .slice none 0 0, .slice none 0 0, .bool false] 28)).heap.size := by simp
  generalize hE1 : (((w.alloc (.cells #[.bool b, .slice A n c, .slice D m e, .bool false] 28)).alloc (.cells #[.bool b', .slice A' n' c', .slice D' m' e', .bool false] 28)).alloc (.cells #[.bool false, .slice none 0 0, .slice none 0 0, .bool false] 28)) = w1 at p1 bw1 lw1 x1a x1b x1c ⊢
  clear hE1
  replace h := h.keep p1
  replace h' := h'.keep p1
  have cx1a := x1a.c4
  have lx1a := lts0 x1a.lt
  have cx1b := x1b.c4
  have lx1b := lts1 x1b.lt
  refine wp_region_lin (B := w.heap.size) (fr := fun xf => ⟨#[.agg #[.bool b, .slice A n c, .slice D m e, .bool false], .agg #[.bool b', .slice A' n' c', .slice D' m' e', .bool false], .pointer (some ⟨w.heap.size, 0, none⟩), .pointer (some ⟨w.heap.size + 1, 0, none⟩), .pointer (some ⟨w.heap.size + 1 + 1, 0, none⟩), xf 7, _, .pointer (some ⟨w.heap.size, 3, none⟩), .bool false, .bool false, _, _, _, undef, .bool false, .pointer (some ⟨w.heap.size + 1, 3, none⟩), .bool false, undef, undef, undef, _, .pointer (some ⟨w.heap.size, 3, none⟩), .bool false, .bool false, _, _, _, _, _, undef, .bool false, .pointer (some ⟨w.heap.size, 3, none⟩), .bool false, undef, undef, undef, undef, undef, xf 0, xf 1, xf 2, xf 3, xf 4, xf 5, xf 6, undef, undef, undef, undef, undef, undef, undef, undef, undef, undef, undef, undef], []⟩) (R := fun i => List.getD [VQ (((1 : Int) : Rat)) (1), PEq (.pointer (some ⟨w.heap.size, 0, none⟩)), PEq (.agg #[.bool b, .slice A n c, .slice D m e]), PEq (.pointer (some ⟨w.heap.size + 1, 0, none⟩)), PEq (.agg #[.bool b', .slice A' n' c', .slice D' m' e']), VQ (((t).t) * ((t').t)) ((k) + (k')), VQ ((((1 : Int) : Rat)) - (((t).t) * ((t').t))) ((1) + ((k) + (k')) + 1), PAny, PAny] i (fun _ _ => True)) (es := [⟨7, 8, 24, #[.bool false, .slice none 0 0, .slice none 0 0], CQ ((((1 : Int) : Rat)) - (((t).t) * ((t').t))) ((1) + ((k) + (k')) + 1)⟩]) (ow := [⟨w.heap.size, 9, 0, 28, #[.bool b, .slice A n c, .slice D m e, .bool false], CAny⟩, ⟨w.heap.size + 1, 9, 0, 28, #[.bool b', .slice A' n' c', .slice D' m' e', .bool false], CAny⟩, ⟨w.heap.size + 1 + 1, 9, 0, 28, #[.bool false, .slice none 0 0, .slice none 0 0, .bool false], CAny⟩]) (x0 := fun _ => undef) (by kernel_rfl)
    (each_of ⟨fun _ _ => rfl, fun _ _ => rfl, fun _ _ => rfl, fun _ _ => rfl, fun _ _ => rfl, fun _ _ => rfl, fun _ _ => rfl, fun _ _ => rfl, fun _ _ => rfl, trivial⟩) (each_of (acyc_from _ 0 (by kernel_rfl))) (AllStab.get _ ⟨stQ _ _, stEq _, stEq _, stEq _, stEq _, stQ _ _, stQ _ _, stAny, stAny, trivial⟩)
    (fmc ⟨scQ _ _, fun _ h => nomatch h⟩) (fmc ⟨scAny, fmc ⟨scAny, fmc ⟨scAny, fun _ h => nomatch h⟩⟩⟩) (fmc ⟨⟨by simp, by simp⟩, fun _ h => nomatch h⟩) bw1.size
    (fmc ⟨⟨x1a, by show w.heap.size ≤ w.heap.size; omega⟩, fmc ⟨⟨x1b, by show w.heap.size ≤ w.heap.size + 1; omega⟩, fmc ⟨⟨x1c, by show w.heap.size ≤ w.heap.size + 1 + 1; omega⟩, fun _ h => nomatch h⟩⟩⟩) (ownDist (by simp <;> omega))
    (each_of ⟨?_, ?_, ?_, ?_, ?_, ?_, ?_, ?_, ?_, trivial⟩) ?_
  · exact .inl ⟨by simp, by simp, fun xf wq hk hbl hd K hK => by
      (try dsimp only)
      go_simp
      go_at_call 25
      (with_reducible refine (f_of _ (1) ?_ ?_).mono ?_); (omega); (omega); rintro e wr ⟨b3, A3, n3, c3, A'3, n'3, c'3, rfl, h3, hbr⟩
      exact hK.out _ _ ⟨b3, A3, n3, c3, A'3, n'3, c'3, rfl, h3⟩ hbr⟩
  · exact .inl ⟨by simp, by simp, fun xf wq hk hbl hd K hK => by
      (try dsimp only)
      go_simp
      exact hK.out (.pointer (some ⟨w.heap.size, 0, none⟩)) _ rfl (brefl _)⟩
  · exact .inl ⟨by simp, by simp, fun xf wq hk hbl hd K hK => by
      have d1 : xf 1 = .pointer (some ⟨w.heap.size, 0, none⟩) := hd ⟨1, .data⟩ (by simp) rfl
      have y : Blk wq w.heap.size 28 #[.bool b, .slice A n c, .slice D m e, .bool false] := hbl _ (List.Mem.head _) (by simp [Region.binds])
      obtain ⟨c0, c1, c2, c3⟩ := y.c4
      (try dsimp only); (try simp only [d1])
      go_simp
      have hz := hK.out (.agg #[.bool b, .slice A n c, .slice D m e]) _ rfl (brefl _)
      simp only [d1] at hz
      exact hz⟩
  · exact .inl ⟨by simp, by simp, fun xf wq hk hbl hd K hK => by
      (try dsimp only)
      go_simp
      exact hK.out (.pointer (some ⟨w.heap.size + 1, 0, none⟩)) _ rfl (brefl _)⟩
  · exact .inl ⟨by simp, by simp, fun xf wq hk hbl hd K hK => by
      have d3 : xf 3 = .pointer (some ⟨w.heap.size + 1, 0, none⟩) := hd ⟨3, .data⟩ (by simp) rfl
      have y : Blk wq (w.heap.size + 1) 28 #[.bool b', .slice A' n' c', .slice D' m' e', .bool false] := hbl _ (List.Mem.tail _ (List.Mem.head _)) (by simp [Region.binds])
      obtain ⟨c0, c1, c2, c3⟩ := y.c4
      (try dsimp only); (try simp only [d3])
      go_simp
      have hz := hK.out (.agg #[.bool b', .slice A' n' c', .slice D' m' e']) _ rfl (brefl _)
      simp only [d3] at hz
      exact hz⟩
  · exact .inl ⟨by simp, by simp, fun xf wq hk hbl hd K hK => by
      have d2 : xf 2 = .agg #[.bool b, .slice A n c, .slice D m e] := hd ⟨2, .data⟩ (by simp) rfl
      have d4 : xf 4 = .agg #[.bool b', .slice A' n' c', .slice D' m' e'] := hd ⟨4, .data⟩ (by simp) rfl
      (try dsimp only); (try simp only [d2, d4])
      go_simp
      go_at_call 24
      (with_reducible refine (f_mul _ b A n c D m e ((t).t) (k) ?_ b' A' n' c' D' m' e' ((t').t) (k') ?_ ?_ ?_ ?_ ?_).mono ?_); (exact (h.keep hk).qz); (exact (h'.keep hk).qz); (omega); (omega); (omega); (omega); rintro e wr ⟨b4, A4, n4, c4, A'4, n'4, c'4, rfl, h4, hbr⟩
      have hz := hK.out _ _ ⟨b4, A4, n4, c4, A'4, n'4, c'4, rfl, h4⟩ hbr
      simp only [d2, d4] at hz
      exact hz⟩
  · exact .inl ⟨by simp, by simp, fun xf wq hk hbl hd K hK => by
      obtain ⟨b3, A3, n3, c3, A'3, n'3, c'3, d0, h3⟩ : VQ (((1 : Int) : Rat)) (1) (xf 0) wq := hd ⟨0, .data⟩ (by simp) rfl
      obtain ⟨b4, A4, n4, c4, A'4, n'4, c'4, d5, h4⟩ : VQ (((t).t) * ((t').t)) ((k) + (k')) (xf 5) wq := hd ⟨5, .data⟩ (by simp) rfl
      (try dsimp only); (try simp only [d0, d5])
      go_simp
      go_at_call 29
      (with_reducible refine (f_sub _ b3 A3 n3 c3 A'3 n'3 c'3 (((1 : Int) : Rat)) (1) ?_ b4 A4 n4 c4 A'4 n'4 c'4 (((t).t) * ((t').t)) ((k) + (k')) ?_ ?_ ?_ ?_ ?_).mono ?_); (exact h3.qz); (exact h4.qz); (omega); (omega); (omega); (omega); rintro e wr ⟨b5, A5, n5, c5, A'5, n'5, c'5, rfl, h5, hbr⟩
      have hz := hK.out _ _ ⟨b5, A5, n5, c5, A'5, n'5, c'5, rfl, h5⟩ hbr
      simp only [d0, d5] at hz
      exact hz⟩
  · exact .inr (.inl ⟨⟨7, 8, 24, #[.bool false, .slice none 0 0, .slice none 0 0], CQ ((((1 : Int) : Rat)) - (((t).t) * ((t').t))) ((1) + ((k) + (k')) + 1)⟩, by simp, rfl, by simp, by simp, by simp, fun _ _ => True.intro, fun xf wq K hK => by
      (try dsimp only)
      go_simp
      exact hK.out⟩)
  · exact .inr (.inr (.inl ⟨⟨7, 8, 24, #[.bool false, .slice none 0 0, .slice none 0 0], CQ ((((1 : Int) : Rat)) - (((t).t) * ((t').t))) ((1) + ((k) + (k')) + 1)⟩, by simp, rfl, by simp, by simp, by simp, by simp, (show KT 24 = false by decide), fun _ _ => True.intro, ⟨⟨7, .data⟩, by simp, rfl, rfl⟩, fun xf wq g hx hblk hd => by
      obtain ⟨b5, A5, n5, c5, A'5, n'5, c'5, d6, h5⟩ : VQ ((((1 : Int) : Rat)) - (((t).t) * ((t').t))) ((1) + ((k) + (k')) + 1) (xf 6) wq := hd ⟨6, .data⟩ (by simp) rfl
      dsimp only at hx hblk
      refine ⟨[.bool b5, .slice A5 n5 c5, .slice A'5 n'5 c'5], fun w' hk => ⟨b5, A5, n5, c5, A'5, n'5, c'5, rfl, h5.keep hk⟩, fun K hK => ?_⟩
      have hc0 : wq.cell? ⟨g, 0, none⟩ = some (.bool false) := hblk.cell 0
      have hc1 : wq.cell? ⟨g, 1, none⟩ = some (.slice none 0 0) := hblk.cell 1
      have hc2 : wq.cell? ⟨g, 2, none⟩ = some (.slice none 0 0) := hblk.cell 2
      have hf0 : wq.frozen? ⟨g, 0, none⟩ = false := hblk.frozen 0
      have hf1 : wq.frozen? ⟨g, 1, none⟩ = false := hblk.frozen 1
      have hf2 : wq.frozen? ⟨g, 2, none⟩ = false := hblk.frozen 2
      (try dsimp only)
      simp only [hx, d6]
      go_simp
      have hz := hK.out undef
      simp only [hx, d6] at hz
      exact hz⟩))
  clear cx1a lx1a cx1b lx1b
  intro y2 w2 kq2 hbl2 lw2 how hrr hfl hds
  replace h := h.keep kq2
  replace h' := h'.keep kq2
  obtain ⟨_, z2_0, ez, _⟩ := how _ (List.Mem.head _)
  obtain rfl := ez (by simp)
  dsimp only at z2_0
  obtain ⟨_, z2_1, ez, _⟩ := how _ (List.Mem.tail _ (List.Mem.head _))
  obtain rfl := ez (by simp)
  dsimp only at z2_1
  obtain ⟨_, z2_2, ez, _⟩ := how _ (List.Mem.tail _ (List.Mem.tail _ (List.Mem.head _)))
  obtain rfl := ez (by simp)
  dsimp only at z2_2
  obtain ⟨g5_2, _, eg5_2, Gg5_2, xg5_2, ⟨b5, A5, n5, c5, A'5, n'5, c'5, rfl, h5⟩⟩ := hfl _ (List.Mem.head _)
  dsimp only at eg5_2 Gg5_2 xg5_2
  have lgg5_2 : g5_2 < w2.heap.size := xg5_2.lt
  (try dsimp only)
  simp only [eg5_2]
  clear hrr hfl how hds eg5_2
  clear x1a x1b x1c
  have bw2 := bw1.trans hbl2
  clear bw1
  obtain ⟨cxg5_2_0, cxg5_2_1, cxg5_2_2⟩ := xg5_2.c3
  obtain ⟨lxg5_2_0, lxg5_2_1, lxg5_2_2, lxg5_2_3⟩ := lts0 xg5_2.lt
  go_wp2_with fail
  (with_reducible refine (f_sign_e _ b5 A5 n5 c5 A'5 n'5 c'5 ((((1 : Int) : Rat)) - (((t).t) * ((t').t))) ((1) + ((k) + (k')) + 1) ?_ (s) ?_ ?_ ?_).mono ?_); (exact h5.qz); (exact HZ.out); (omega); (omega); rintro e w7 ⟨rfl, q7⟩
  clear cxg5_2_0 cxg5_2_1 cxg5_2_2 lxg5_2_0 lxg5_2_1 lxg5_2_2 lxg5_2_3
  replace h := h.belw q7
  replace h' := h'.belw q7
  replace h5 := h5.belw q7
  replace z2_0 := z2_0.b q7
  replace z2_1 := z2_1.b q7
  replace z2_2 := z2_2.b q7
  replace xg5_2 := xg5_2.b q7
  have bw7 := bw2.trans (q7.mono bw2.size)
  have lw7 := q7.size
  clear q7 bw2
  have cz2_0 := z2_0.c4
  have lz2_0 := lts0 z2_0.lt
  have cz2_1 := z2_1.c4
  have lz2_1 := lts1 z2_1.lt
  obtain ⟨cz2_2_0, cz2_2_1, cz2_2_2, cz2_2_3⟩ := z2_2.c4
  obtain ⟨fz2_2_0, fz2_2_1, fz2_2_2, fz2_2_3⟩ := z2_2.f4
  have lz2_2 := lts2 z2_2.lt
  obtain ⟨cxg5_2_0, cxg5_2_1, cxg5_2_2⟩ := xg5_2.c3
  obtain ⟨lxg5_2_0, lxg5_2_1, lxg5_2_2, lxg5_2_3⟩ := lts0 xg5_2.lt
  go_wp2_with fail
  have nfz2_0_0 : ¬ w.heap.size = w.heap.size + 1 + 1 := by omega
  have nez2_0_0 : ¬ w.heap.size = w.heap.size + 2 := by omega
  have nfz2_1_0 : ¬ w.heap.size + 1 = w.heap.size + 1 + 1 := by omega
  have nez2_1_0 : ¬ w.heap.size = w.heap.size + 1 := by omega
  have nfxg5_2_0 : ¬ g5_2 = w.heap.size + 1 + 1 := by omega
  have nexg5_2_0 : ¬ g5_2 = w.heap.size + 2 := by omega
  go_region_held3 (fun w' => SeesX w7.heap.size (w.heap.size + 1 + 1) w7 w') (first | with_reducible exact SeesX.of (Nat.le_refl _) (by assumption) | with_reducible exact SeesX.of (Nat.le_refl _) (brefl _).drew | with_reducible exact (SeesX.set (SeesX.set (SeesX.set (SeesX.set (SeesX.of (Nat.le_refl _) (by assumption)))))) | with_reducible exact (SeesX.set (SeesX.set (SeesX.set (SeesX.of (Nat.le_refl _) (by assumption))))) | with_reducible exact (SeesX.set (SeesX.set (SeesX.of (Nat.le_refl _) (by assumption)))) | with_reducible exact (SeesX.set (SeesX.of (Nat.le_refl _) (by assumption))) | exact SeesX.of (Nat.le_refl _) (below_drewN (brefl _) 1) | exact SeesX.of (Nat.le_refl _) (below_drewN (by assumption) _))
    (first
      | (go_at_call 23; (with_reducible refine (f_add _ b A n c D m e ((t).t) (k) ?_ b' A' n' c' D' m' e' ((t').t) (k') ?_ ?_ ?_ ?_ ?_).mono ?_); (exact h.qz); (exact h'.qz); (omega); (omega); (omega); (omega); rintro e w8 ⟨b8, A8, n8, c8, A'8, n'8, c'8, rfl, h8, hb8⟩; replace hb8 := bnext (below_drewN (brefl _) 1) hb8; have q8 : Below w7.heap.size w7 w8 := bnext (brefl w7) hb8; replace h := h.belw hb8; replace h' := h'.belw hb8; replace h5 := h5.belw hb8)
      | (go_at_call 28; (with_reducible refine (t_over _ b8 A8 n8 c8 A'8 n'8 c'8 (((t).t) + ((t').t)) ((k) + (k') + 1) ?_ b5 A5 n5 c5 A'5 n'5 c'5 ((((1 : Int) : Rat)) - (((t).t) * ((t').t))) ((1) + ((k) + (k')) + 1) ?_ ?_ ?_ ?_ ?_ ?_).mono ?_); (exact h8.qz); (exact h5.qz); (omega); (omega); (omega); (omega); (exact HNE.out); rintro e w9 ⟨b9, A9, n9, c9, A'9, n'9, c'9, rfl, h9, hb9⟩; have q9 : Below w7.heap.size w7 w9 := bnext q8 hb9; replace h := h.belw hb9; replace h' := h'.belw hb9; replace h5 := h5.belw hb9; replace h8 := h8.belw hb9; have z2_2 : Blk w9 (w.heap.size + 1 + 1) 28 #[.bool false, .slice none 0 0, .slice none 0 0, .bool false] := z2_2.below q9 z2_2.lt; obtain ⟨cz2_2_0, cz2_2_1, cz2_2_2, cz2_2_3⟩ := z2_2.c4; obtain ⟨fz2_2_0, fz2_2_1, fz2_2_2, fz2_2_3⟩ := z2_2.f4))
  have bw9 := bw7.trans (q9.mono bw7.size)
  clear cz2_0 lz2_0 cz2_1 lz2_1 cz2_2_0 fz2_2_0 cz2_2_1 fz2_2_1 cz2_2_2 fz2_2_2 cz2_2_3 fz2_2_3 lz2_2 cxg5_2_0 cxg5_2_1 cxg5_2_2 lxg5_2_0 lxg5_2_1 lxg5_2_2 lxg5_2_3
  replace z2_0 := z2_0.b q9
  replace z2_1 := z2_1.b q9
  replace xg5_2 := xg5_2.b q9
  have lw9 := q9.size
  obtain ⟨cz2_2_0, cz2_2_1, cz2_2_2, cz2_2_3⟩ := z2_2.c4
  obtain ⟨fz2_2_0, fz2_2_1, fz2_2_2, fz2_2_3⟩ := z2_2.f4
  go_wp2_with fail
  rw [HT.out]
  refine bodyPost_ret (v := .agg #[.bool b9, .slice A9 n9 c9, .slice A'9 n'9 c'9, .bool false]) (by simp [results, Tryz.results46, go_sem, *] <;> trivial) rfl ?_
  have kp := (((((Kp.refl w9).sb (w.heap.size + 1 + 1) 0 z2_2.box (by decide) (.bool b9)).sb (w.heap.size + 1 + 1) 1 (z2_2.box.set ⟨w.heap.size + 1 + 1, 0, none⟩ (.bool b9)) (by decide) (.slice A9 n9 c9)).sb (w.heap.size + 1 + 1) 2 ((z2_2.box.set ⟨w.heap.size + 1 + 1, 0, none⟩ (.bool b9)).set ⟨w.heap.size + 1 + 1, 1, none⟩ (.slice A9 n9 c9)) (by decide) (.slice A'9 n'9 c'9)).sb (w.heap.size + 1 + 1) 3 (((z2_2.box.set ⟨w.heap.size + 1 + 1, 0, none⟩ (.bool b9)).set ⟨w.heap.size + 1 + 1, 1, none⟩ (.slice A9 n9 c9)).set ⟨w.heap.size + 1 + 1, 2, none⟩ (.slice A'9 n'9 c'9)) (by decide) (.bool false))
  exact ⟨b9, A9, n9, c9, A'9, n'9, c'9, false, rfl, (tv_mk (h9.keep kp)).mono (by omega), ((((bw9.sc (w.heap.size + 1 + 1) 0 (by omega) (.bool b9)).sc (w.heap.size + 1 + 1) 1 (by omega) (.slice A9 n9 c9)).sc (w.heap.size + 1 + 1) 2 (by omega) (.slice A'9 n'9 c'9)).sc (w.heap.size + 1 + 1) 3 (by omega) (.bool false))⟩
theorem t_add (w : World) (b : Bool) (A : Option Addr) (n c : Nat) (D : Option Addr) (m e : Nat) (x : Bool) (t : TN) (k : Nat) (h : TK w b A n c D m e x t k) (b' : Bool) (A' : Option Addr) (n' c' : Nat) (D' : Option Addr) (m' e' : Nat) (x' : Bool) (t' : TN) (k' : Nat) (h' : TK w b' A' n' c' D' m' e' x' t' k') (h0 : 0 < k) (hk : k ≤ 1000000) (h0' : 0 < k') (hk' : k' ≤ 1000000) : Calls Tryz.prog 46 #[.agg #[.bool b, .slice A n c, .slice D m e, .bool x], .agg #[.bool b', .slice A' n' c', .slice D' m' e', .bool x']] w (RetT w (tadd t t') (2 * k + 2 * k' + 3)) := by
  cases x <;> cases x'
  · by_cases hz : ((1 : Int) : Rat) - t.t * t'.t = 0
    · exact t_add_ff0 w b A n c D m e t k h b' A' n' c' D' m' e' t' k' h' h0 hk h0' hk' hz
    · exact t_add_ff1 w b A n c D m e t k h b' A' n' c' D' m' e' t' k' h' h0 hk h0' hk' hz
  · exact t_add_ft w b A n c D m e t k h b' A' n' c' D' m' e' t' k' h' h0 hk h0' hk'
  · exact t_add_tf w b A n c D m e t k h b' A' n' c' D' m' e' t' k' h' h0 hk h0' hk'
  · exact t_add_tt w b A n c D m e t k h b' A' n' c' D' m' e' t' k' h' h0 hk h0' hk'
end Go.Proofs.YtianjkiakkclgaaGreatDoor

/- Walks: the first error of some turns. -/
namespace Go.Proofs.YtianjkiakkclgaaGreatDoor
open Go Go.RowKit Bn
attribute [local go_sem ↓] Go.wp_at_zero Go.wp_at_succ
def Ts (w : World) (g n k : Nat) : Prop := g < w.heap.size ∧ ∀ i, i < n → ∃ b A m c D m' e x t, w.cell? ⟨g, i * 4, none⟩ = some (.bool b) ∧ w.cell? ⟨g, i * 4 + 1, none⟩ = some (.slice A m c) ∧ w.cell? ⟨g, i * 4 + 2, none⟩ = some (.slice D m' e) ∧ w.cell? ⟨g, i * 4 + 3, none⟩ = some (.bool x) ∧ TK w b A m c D m' e x t k
theorem Ts.belw {w w' : World} {g n k : Nat} (h : Ts w g n k) (hb : Below w.heap.size w w') : Ts w' g n k := by
  obtain ⟨hg, h⟩ := h
  have hc := (bcell hb).1
  refine ⟨Nat.lt_of_lt_of_le hg hb.size, fun i hi => ?_⟩
  obtain ⟨b, A, m, c, D, m', e, x, t, h1, h2, h3, h4, h5⟩ := h i hi
  exact ⟨b, A, m, c, D, m', e, x, t, (hc _ _ hg).trans h1, (hc _ _ hg).trans h2, (hc _ _ hg).trans h3, (hc _ _ hg).trans h4, h5.belw hb⟩
theorem ts2 {w : World} {g k : Nat} {T : TypeId} {b : Bool} {A : Option Addr} {m c : Nat} {D : Option Addr} {m' e : Nat} {x : Bool} {t : TN} {b1 : Bool} {A1 : Option Addr} {m1 c1 : Nat} {D1 : Option Addr} {m1' e1 : Nat} {x1 : Bool} {t1 : TN}
    (hb : Blk w g T #[.bool b, .slice A m c, .slice D m' e, .bool x, .bool b1, .slice A1 m1 c1, .slice D1 m1' e1, .bool x1]) (h : TK w b A m c D m' e x t k) (h1 : TK w b1 A1 m1 c1 D1 m1' e1 x1 t1 k) : Ts w g 2 k := by
  refine ⟨hb.lt, fun i hi => ?_⟩
  match i, hi with
  | 0, _ => exact ⟨_, _, _, _, _, _, _, _, t, hb.cell 0, hb.cell 1, hb.cell 2, hb.cell 3, h⟩
  | 1, _ => exact ⟨_, _, _, _, _, _, _, _, t1, hb.cell 4, hb.cell 5, hb.cell 6, hb.cell 7, h1⟩
theorem t_checkAll (w : World) (g n k : Nat) (h : Ts w g n k) (hn : n ≤ 1000) (h0 : 0 < k) (hk : k ≤ 1000000) :
  Calls Tryz.prog 45 #[.slice (some ⟨g, 0, none⟩) n n] w (RetV w .nilIface) := by
 go_enter Tryz.func45, Tryz.ntmps45
 go_wp2_with fail
 go_loopw [8] (fun iv wr => ∃ i : Nat, i ≤ n ∧ iv = .int .i64 (i : Nat) ∧ Below w.heap.size w wr) (fun iv _ => n - (intOf iv).toNat)
 case atStart => exact ⟨0, Nat.zero_le _, rfl, brefl w⟩
 case round =>
  obtain ⟨i, hi, rfl, hb⟩ := hrel
  by_cases hlt : i < n
  ·have hw := h.belw hb
   obtain ⟨b, A, m, c, D, m', e, x, t, c0, c1, c2, c3, h5⟩ := hw.2 i hlt
   have hgl := hw.1
   have H := Lib.hid h
   clear h hw
   go_wp2_with fail
   (with_reducible refine (t_check _ b A m c D m' e x t k ?_ ?_ ?_).mono ?_); (exact h5.belw ((Below.refl _ _).alloc (Nat.le_refl _) _)); (exact h0); (exact hk); rintro e w1 ⟨rfl, hb1⟩
   go_wp2_with fail
   go_roundw
   case rel => exact ⟨i + 1, by omega, by go_num, hb.trans (((Below.refl _ _).alloc (Nat.le_refl _) _).trans (hb1.mono (by simp)) |>.mono hb.size)⟩
   case measure => simp [intOf]; omega
  ·have H := Lib.hid h
   clear h
   go_wp2_with fail
   go_ret
   exact ⟨rfl, hb⟩
end Go.Proofs.YtianjkiakkclgaaGreatDoor

/- Walks: turns, what is called. -/
namespace Go.Proofs.YtianjkiakkclgaaGreatDoor
open Go Go.RowKit Bn
attribute [local go_sem ↓] Go.wp_at_zero Go.wp_at_succ
theorem t_Add (w : World) (b : Bool) (A : Option Addr) (n c : Nat) (D : Option Addr) (m e : Nat) (x : Bool) (t : TN) (k : Nat) (h : TK w b A n c D m e x t k) (b' : Bool) (A' : Option Addr) (n' c' : Nat) (D' : Option Addr) (m' e' : Nat) (x' : Bool) (t' : TN) (k' : Nat) (h' : TK w b' A' n' c' D' m' e' x' t' k') (h0 : 0 < k) (hk : k ≤ 400000) (h0' : 0 < k') (hk' : k' ≤ 400000) :
  Calls Tryz.prog 20 #[.agg #[.bool b, .slice A n c, .slice D m e, .bool x], .agg #[.bool b', .slice A' n' c', .slice D' m' e', .bool x']] w (RetTe w .nilIface (tadd t t') (2 * k + 2 * k' + 3)) := by
 go_enter Tryz.func20, Tryz.ntmps20
 go_wp2_with fail
 (with_reducible refine (t_checkAll _ (w.heap.size + 1 + 1 + 1) 2 ((k) + (k')) ?_ ?_ ?_ ?_).mono ?_); (exact ts2 (blkAt _ _ _ (by simp)) ((h.belw (((((Below.refl _ _).alloc (Nat.le_refl _) _).alloc (by simp) _).alloc (by simp <;> omega) _).alloc (by simp <;> omega) _)).mono (by omega)) ((h'.belw (((((Below.refl _ _).alloc (Nat.le_refl _) _).alloc (by simp) _).alloc (by simp <;> omega) _).alloc (by simp <;> omega) _)).mono (by omega))); (decide); (omega); (omega); rintro e w1 ⟨rfl, hb1⟩
 have q1 := (((((Below.refl _ _).alloc (Nat.le_refl _) _).alloc (by simp) _).alloc (by simp <;> omega) _).alloc (by simp <;> omega) _).trans (hb1.mono (by simp <;> omega))
 replace h := h.belw q1
 replace h' := h'.belw q1
 have x1a : Blk w1 w.heap.size 28 #[.bool b, .slice A n c, .slice D m e, .bool x] := ((((blkAt _ _ _ (by simp)).alloc _).alloc _).alloc _).below hb1 (by simp <;> omega)
 have x1b := (((blkAt _ _ _ (g := w.heap.size + 1) (by simp)).alloc _).alloc _).below hb1 (by simp <;> omega)
 have x1c := ((blkAt _ _ _ (g := w.heap.size + 1 + 1) (by simp)).alloc _).below hb1 (by simp <;> omega)
 have x1d := (blkAt _ _ _ (g := w.heap.size + 1 + 1 + 1) (by simp)).below hb1 (by simp)
 have bw1 := (brefl w).trans (q1.mono (brefl w).size)
 have lw1 : w.heap.size + 4 ≤ w1.heap.size := by have := hb1.size; simp at this; omega
 clear q1
 have cx1a := x1a.c4
 have lx1a := lts0 x1a.lt
 have cx1b := x1b.c4
 have lx1b := lts1 x1b.lt
 go_wp2_with fail
 (with_reducible refine (t_add _ b A n c D m e x (t) (k) ?_ b' A' n' c' D' m' e' x' (t') (k') ?_ ?_ ?_ ?_ ?_).mono ?_); (exact h); (exact h'); (omega); (omega); (omega); (omega); rintro e w2 ⟨b2, A2, n2, c2, A'2, n'2, c'2, x2, rfl, h2, q2⟩
 clear cx1a lx1a cx1b lx1b
 replace h := h.belw q2
 replace h' := h'.belw q2
 replace x1a := x1a.b q2
 replace x1b := x1b.b q2
 replace x1c := x1c.b q2
 replace x1d := x1d.b q2
 have bw2 := bw1.trans (q2.mono bw1.size)
 have lw2 := q2.size
 clear q2 bw1
 have cx1c := x1c.c4
 have fx1c := x1c.f4
 have lx1c := lts2 x1c.lt
 go_wp2_with fail
 refine bodyPost_ret (v := .tuple #[.agg #[.bool b2, .slice A2 n2 c2, .slice A'2 n'2 c'2, .bool x2], .nilIface]) (by simp [results, Tryz.results20, go_sem, *] <;> trivial) rfl ?_
 have kp := (((((Kp.refl w2).sb (w.heap.size + 1 + 1) 0 x1c.box (by decide) (.bool b2)).sb (w.heap.size + 1 + 1) 1 (x1c.box.set ⟨w.heap.size + 1 + 1, 0, none⟩ (.bool b2)) (by decide) (.slice A2 n2 c2)).sb (w.heap.size + 1 + 1) 2 ((x1c.box.set ⟨w.heap.size + 1 + 1, 0, none⟩ (.bool b2)).set ⟨w.heap.size + 1 + 1, 1, none⟩ (.slice A2 n2 c2)) (by decide) (.slice A'2 n'2 c'2)).sb (w.heap.size + 1 + 1) 3 (((x1c.box.set ⟨w.heap.size + 1 + 1, 0, none⟩ (.bool b2)).set ⟨w.heap.size + 1 + 1, 1, none⟩ (.slice A2 n2 c2)).set ⟨w.heap.size + 1 + 1, 2, none⟩ (.slice A'2 n'2 c'2)) (by decide) (.bool x2))
 exact ⟨b2, A2, n2, c2, A'2, n'2, c'2, x2, rfl, h2.keep kp, ((((bw2.sc (w.heap.size + 1 + 1) 0 (by omega) (.bool b2)).sc (w.heap.size + 1 + 1) 1 (by omega) (.slice A2 n2 c2)).sc (w.heap.size + 1 + 1) 2 (by omega) (.slice A'2 n'2 c'2)).sc (w.heap.size + 1 + 1) 3 (by omega) (.bool x2))⟩
end Go.Proofs.YtianjkiakkclgaaGreatDoor

/- Walks: comparison of turns; the turn of a cosine and a sine. -/
namespace Go.Proofs.YtianjkiakkclgaaGreatDoor
open Go Go.RowKit Bn
attribute [local go_sem ↓] Go.wp_at_zero Go.wp_at_succ
theorem cmpI_rcmp (a b : Rat) : cmpI (a.num * b.den) (b.num * a.den) = rcmp a b := by
  unfold cmpI rcmp
  have h := cmp_q a b
  by_cases h1 : a < b
  · rw [if_pos h1, if_pos (h.1.2 h1)]
  · rw [if_neg h1, if_neg (fun x => h1 (h.1.1 x))]
    by_cases h2 : a = b
    · rw [if_pos h2, if_pos (h.2.2 h2)]
    · rw [if_neg h2, if_neg (fun x => h2 (h.2.1 x))]
end Go.Proofs.YtianjkiakkclgaaGreatDoor

/- Walks: the turn of a cosine and a sine. -/
namespace Go.Proofs.YtianjkiakkclgaaGreatDoor
open Go Go.RowKit Bn
attribute [local go_sem ↓] Go.wp_at_zero Go.wp_at_succ
theorem t_of_0 (w : World) (b A n c D m e q k) (h : QZ w b A n c D m e q k) (b' A' n' c' D' m' e' q' k') (h' : QZ w b' A' n' c' D' m' e' q' k') (h0 : 0 < k) (hk : k ≤ 1000000) (h0' : 0 < k') (hk' : k' ≤ 1000000) (hz : ((1 : Int) : Rat) + q = 0) :
    Calls Tryz.prog 26 #[.agg #[.bool b, .slice A n c, .slice D m e], .agg #[.bool b', .slice A' n' c', .slice D' m' e']] w (RetT w (tof q q') (k + k' + 2)) := by
  rw [show tof q q' = thalf by unfold tof; rw [if_pos (by have h1 : (1 : Rat) + q = 0 := hz; grind)]]
  have HZ := Lib.hid (sgn_eq hz)
  clear hz
  go_enter Tryz.func26, Tryz.ntmps26
  go_wp2_with fail
  have p1 := ((((Kp.refl w).alloc (.cells #[.bool b, .slice A n c, .slice D m e] 24)).alloc (.cells #[.bool b', .slice A' n' c', .slice D' m' e'] 24)).alloc (.cells #[.bool false, .slice none 0 0, .slice none 0 0, .bool false] 28))
  have bw1 := ((((brefl w).alloc (by first | omega | (simp <;> omega)) (.cells #[.bool b, .slice A n c, .slice D m e] 24)).alloc (by first | omega | (simp <;> omega)) (.cells #[.bool b', .slice A' n' c', .slice D' m' e'] 24)).alloc (by first | omega | (simp <;> omega)) (.cells #[.bool false, .slice none 0 0, .slice none 0 0, .bool false] 28))
  have x1a : Blk (((w.alloc (.cells #[.bool b, .slice A n c, .slice D m e] 24)).alloc (.cells #[.bool b', .slice A' n' c', .slice D' m' e'] 24)).alloc (.cells #[.bool false, .slice none 0 0, .slice none 0 0, .bool false] 28)) w.heap.size 24 #[.bool b, .slice A n c, .slice D m e] := (((blkAt _ _ _ (by simp)).alloc (.cells #[.bool b', .slice A' n' c', .slice D' m' e'] 24)).alloc (.cells #[.bool false, .slice none 0 0, .slice none 0 0, .bool false] 28))
  have x1b : Blk (((w.alloc (.cells #[.bool b, .slice A n c, .slice D m e] 24)).alloc (.cells #[.bool b', .slice A' n' c', .slice D' m' e'] 24)).alloc (.cells #[.bool false, .slice none 0 0, .slice none 0 0, .bool false] 28)) (w.heap.size + 1) 24 #[.bool b', .slice A' n' c', .slice D' m' e'] := ((blkAt _ _ _ (by simp)).alloc (.cells #[.bool false, .slice none 0 0, .slice none 0 0, .bool false] 28))
  have x1c : Blk (((w.alloc (.cells #[.bool b, .slice A n c, .slice D m e] 24)).alloc (.cells #[.bool b', .slice A' n' c', .slice D' m' e'] 24)).alloc (.cells #[.bool false, .slice none 0 0, .slice none 0 0, .bool false] 28)) (w.heap.size + 1 + 1) 28 #[.bool false, .slice none 0 0, .slice none 0 0, .bool false] := (blkAt _ _ _ (by simp))
  have lw1 : w.heap.size + 3 ≤ (((w.alloc (.cells #[.bool b, .slice A n c, .slice D m e] 24)).alloc (.cells #[.bool b', .slice A' n' c', .slice D' m' e'] 24)).alloc (.cells #[.bool false, .slice none 0 0, .slice none 0 0, .bool false] 28)).heap.size := by simp
  generalize hE1 : (((w.alloc (.cells #[.bool b, .slice A n c, .slice D m e] 24)).alloc (.cells #[.bool b', .slice A' n' c', .slice D' m' e'] 24)).alloc (.cells #[.bool false, .slice none 0 0, .slice none 0 0, .bool false] 28)) = w1 at p1 bw1 lw1 x1a x1b x1c ⊢
  clear hE1
  replace h := h.keep p1
  replace h' := h'.keep p1
  have cx1a := x1a.c3
  have lx1a := lts0 x1a.lt
  refine wp_region_lin (B := w.heap.size) (fr := fun xf => ⟨List.toArray (.agg #[.bool b, .slice A n c, .slice D m e] :: .agg #[.bool b', .slice A' n' c', .slice D' m' e'] :: .pointer (some ⟨w.heap.size, 0, none⟩) :: .pointer (some ⟨w.heap.size + 1, 0, none⟩) :: .pointer (some ⟨w.heap.size + 1 + 1, 0, none⟩) :: xf 3 :: xf 0 :: xf 1 :: xf 2 :: undef :: undef :: undef :: undef :: undef :: undef :: undef :: undef :: []), []⟩) (R := fun i => List.getD ((VQ (((1 : Int) : Rat)) (1)) :: (PEq (.agg #[.bool b, .slice A n c, .slice D m e])) :: (VQ ((((1 : Int) : Rat)) + (q)) ((1) + (k) + 1)) :: PAny :: PAny :: []) i (fun _ _ => True)) (es := [⟨3, 4, 24, #[.bool false, .slice none 0 0, .slice none 0 0], CQ ((((1 : Int) : Rat)) + (q)) ((1) + (k) + 1)⟩]) (ow := [⟨w.heap.size, 5, 0, 24, #[.bool b, .slice A n c, .slice D m e], CAny⟩, ⟨w.heap.size + 1, 5, 0, 24, #[.bool b', .slice A' n' c', .slice D' m' e'], CAny⟩, ⟨w.heap.size + 1 + 1, 5, 0, 28, #[.bool false, .slice none 0 0, .slice none 0 0, .bool false], CAny⟩]) (x0 := (fun _ => undef)) (by kernel_rfl)
    (each_of ⟨fun _ _ => rfl, fun _ _ => rfl, fun _ _ => rfl, fun _ _ => rfl, fun _ _ => rfl, trivial⟩) (each_of (acyc_from _ 0 (by kernel_rfl))) (AllStab.get _ ⟨stQ _ _, stEq _, stQ _ _, stAny, stAny, trivial⟩)
    (fmc ⟨scQ _ _, fun _ h => nomatch h⟩) (fmc ⟨scAny, fmc ⟨scAny, fmc ⟨scAny, fun _ h => nomatch h⟩⟩⟩) (fmc ⟨⟨by simp, by simp⟩, fun _ h => nomatch h⟩) bw1.size
    (fmc ⟨⟨x1a, by show w.heap.size ≤ w.heap.size; omega⟩, fmc ⟨⟨x1b, by show w.heap.size ≤ w.heap.size + 1; omega⟩, fmc ⟨⟨x1c, by show w.heap.size ≤ w.heap.size + 1 + 1; omega⟩, fun _ h => nomatch h⟩⟩⟩) (ownDist (by simp <;> omega))
    (each_of ⟨?_, ?_, ?_, ?_, ?_, trivial⟩) ?_
  · exact .inl ⟨by simp, by simp, fun xf wq hk hbl hd K hK => by
      (try dsimp only)
      go_simp
      go_at_call 25
      (with_reducible refine (f_of _ (1) ?_ ?_).mono ?_); (omega); (omega); rintro e wr ⟨b3, A3, n3, c3, A'3, n'3, c'3, rfl, h3, hbr⟩
      exact hK.out _ _ ⟨b3, A3, n3, c3, A'3, n'3, c'3, rfl, h3⟩ hbr⟩
  · exact .inl ⟨by simp, by simp, fun xf wq hk hbl hd K hK => by
      have y : Blk wq w.heap.size 24 #[.bool b, .slice A n c, .slice D m e] := hbl _ (List.Mem.head _) (by simp [Region.binds])
      have hcl0 := y.c3
      (try dsimp only)
      go_simp
      exact hK.out (.agg #[.bool b, .slice A n c, .slice D m e]) _ rfl (brefl _)⟩
  · exact .inl ⟨by simp, by simp, fun xf wq hk hbl hd K hK => by
      obtain ⟨b3, A3, n3, c3, A'3, n'3, c'3, d0, h3⟩ : VQ (((1 : Int) : Rat)) (1) (xf 0) wq := hd ⟨0, .data⟩ (by simp) rfl
      have d1 : xf 1 = .agg #[.bool b, .slice A n c, .slice D m e] := hd ⟨1, .data⟩ (by simp) rfl
      (try dsimp only); (try simp only [d0, d1])
      go_simp
      go_at_call 23
      (with_reducible refine (f_add _ b3 A3 n3 c3 A'3 n'3 c'3 (((1 : Int) : Rat)) (1) ?_ b A n c D m e (q) (k) ?_ ?_ ?_ ?_ ?_).mono ?_); (exact h3.qz); (exact (h.keep hk)); (omega); (omega); (omega); (omega); rintro e wr ⟨b4, A4, n4, c4, A'4, n'4, c'4, rfl, h4, hbr⟩
      have hz := hK.out _ _ ⟨b4, A4, n4, c4, A'4, n'4, c'4, rfl, h4⟩ hbr
      simp only [d0, d1] at hz
      exact hz⟩
  · exact .inr (.inl ⟨⟨3, 4, 24, #[.bool false, .slice none 0 0, .slice none 0 0], CQ ((((1 : Int) : Rat)) + (q)) ((1) + (k) + 1)⟩, by simp, rfl, by simp, by simp, by simp, fun _ _ => True.intro, fun xf wq K hK => by
      (try dsimp only)
      go_simp
      exact hK.out⟩)
  · exact .inr (.inr (.inl ⟨⟨3, 4, 24, #[.bool false, .slice none 0 0, .slice none 0 0], CQ ((((1 : Int) : Rat)) + (q)) ((1) + (k) + 1)⟩, by simp, rfl, by simp, by simp, by simp, by simp, (show KT 24 = false by decide), fun _ _ => True.intro, ⟨⟨3, .data⟩, by simp, rfl, rfl⟩, fun xf wq g hx hblk hd => by
      obtain ⟨b4, A4, n4, c4, A'4, n'4, c'4, d2, h4⟩ : VQ ((((1 : Int) : Rat)) + (q)) ((1) + (k) + 1) (xf 2) wq := hd ⟨2, .data⟩ (by simp) rfl
      dsimp only at hx hblk
      refine ⟨[.bool b4, .slice A4 n4 c4, .slice A'4 n'4 c'4], fun w' hk => ⟨b4, A4, n4, c4, A'4, n'4, c'4, rfl, h4.keep hk⟩, fun K hK => ?_⟩
      have hc0 : wq.cell? ⟨g, 0, none⟩ = some (.bool false) := hblk.cell 0
      have hc1 : wq.cell? ⟨g, 1, none⟩ = some (.slice none 0 0) := hblk.cell 1
      have hc2 : wq.cell? ⟨g, 2, none⟩ = some (.slice none 0 0) := hblk.cell 2
      have hf0 : wq.frozen? ⟨g, 0, none⟩ = false := hblk.frozen 0
      have hf1 : wq.frozen? ⟨g, 1, none⟩ = false := hblk.frozen 1
      have hf2 : wq.frozen? ⟨g, 2, none⟩ = false := hblk.frozen 2
      (try dsimp only)
      simp only [hx, d2]
      go_simp
      have hz := hK.out undef
      simp only [hx, d2] at hz
      exact hz⟩))
  clear cx1a lx1a
  intro y2 w2 kq2 hbl2 lw2 how hrr hfl hds
  replace h := h.keep kq2
  replace h' := h'.keep kq2
  obtain ⟨_, z2_0, ez, _⟩ := how _ (List.Mem.head _)
  obtain rfl := ez (by simp)
  dsimp only at z2_0
  obtain ⟨_, z2_1, ez, _⟩ := how _ (List.Mem.tail _ (List.Mem.head _))
  obtain rfl := ez (by simp)
  dsimp only at z2_1
  obtain ⟨_, z2_2, ez, _⟩ := how _ (List.Mem.tail _ (List.Mem.tail _ (List.Mem.head _)))
  obtain rfl := ez (by simp)
  dsimp only at z2_2
  obtain ⟨g5_2, _, eg5_2, Gg5_2, xg5_2, ⟨b4, A4, n4, c4, A'4, n'4, c'4, rfl, h4⟩⟩ := hfl _ (List.Mem.head _)
  dsimp only at eg5_2 Gg5_2 xg5_2
  have lgg5_2 : g5_2 < w2.heap.size := xg5_2.lt
  (try dsimp only)
  simp only [eg5_2]
  clear hrr hfl how hds eg5_2
  clear x1a x1b x1c
  have bw2 := bw1.trans hbl2
  clear bw1
  have cxg5_2 := xg5_2.c3
  have lxg5_2 := lts0 xg5_2.lt
  go_wp2_with fail
  (with_reducible refine (f_sign_e _ b4 A4 n4 c4 A'4 n'4 c'4 ((((1 : Int) : Rat)) + (q)) ((1) + (k) + 1) ?_ (0) ?_ ?_ ?_).mono ?_); (exact h4.qz); (exact HZ.out); (omega); (omega); rintro e w6 ⟨rfl, q6⟩
  clear cxg5_2 lxg5_2
  replace h := h.belw q6
  replace h' := h'.belw q6
  replace h4 := h4.belw q6
  replace z2_0 := z2_0.b q6
  replace z2_1 := z2_1.b q6
  replace z2_2 := z2_2.b q6
  replace xg5_2 := xg5_2.b q6
  have bw6 := bw2.trans (q6.mono bw2.size)
  have lw6 := q6.size
  clear q6 bw2
  go_wp2_with fail
  (with_reducible refine (t_half _).mono ?_); rintro e w7 ⟨b7, A7, n7, c7, A'7, n'7, c'7, x7, rfl, h7, q7⟩
  replace h := h.belw q7
  replace h' := h'.belw q7
  replace h4 := h4.belw q7
  replace z2_0 := z2_0.b q7
  replace z2_1 := z2_1.b q7
  replace z2_2 := z2_2.b q7
  replace xg5_2 := xg5_2.b q7
  have bw7 := bw6.trans (q7.mono bw6.size)
  have lw7 := q7.size
  clear q7 bw6
  have cz2_2 := z2_2.c4
  have fz2_2 := z2_2.f4
  have lz2_2 := lts2 z2_2.lt
  go_wp2_with fail
  refine bodyPost_ret (v := .agg #[.bool b7, .slice A7 n7 c7, .slice A'7 n'7 c'7, .bool x7]) (by simp [results, Tryz.results26, go_sem, *] <;> trivial) rfl ?_
  have kp := (((((Kp.refl w7).sb (w.heap.size + 1 + 1) 0 z2_2.box (by decide) (.bool b7)).sb (w.heap.size + 1 + 1) 1 (z2_2.box.set ⟨w.heap.size + 1 + 1, 0, none⟩ (.bool b7)) (by decide) (.slice A7 n7 c7)).sb (w.heap.size + 1 + 1) 2 ((z2_2.box.set ⟨w.heap.size + 1 + 1, 0, none⟩ (.bool b7)).set ⟨w.heap.size + 1 + 1, 1, none⟩ (.slice A7 n7 c7)) (by decide) (.slice A'7 n'7 c'7)).sb (w.heap.size + 1 + 1) 3 (((z2_2.box.set ⟨w.heap.size + 1 + 1, 0, none⟩ (.bool b7)).set ⟨w.heap.size + 1 + 1, 1, none⟩ (.slice A7 n7 c7)).set ⟨w.heap.size + 1 + 1, 2, none⟩ (.slice A'7 n'7 c'7)) (by decide) (.bool x7))
  exact ⟨b7, A7, n7, c7, A'7, n'7, c'7, x7, rfl, (h7.keep kp).mono (by omega), ((((bw7.sc (w.heap.size + 1 + 1) 0 (by omega) (.bool b7)).sc (w.heap.size + 1 + 1) 1 (by omega) (.slice A7 n7 c7)).sc (w.heap.size + 1 + 1) 2 (by omega) (.slice A'7 n'7 c'7)).sc (w.heap.size + 1 + 1) 3 (by omega) (.bool x7))⟩
theorem t_of_1 (w : World) (b A n c D m e q k) (h : QZ w b A n c D m e q k) (b' A' n' c' D' m' e' q' k') (h' : QZ w b' A' n' c' D' m' e' q' k') (h0 : 0 < k) (hk : k ≤ 1000000) (h0' : 0 < k') (hk' : k' ≤ 1000000) (hz : ((1 : Int) : Rat) + q ≠ 0) :
    Calls Tryz.prog 26 #[.agg #[.bool b, .slice A n c, .slice D m e], .agg #[.bool b', .slice A' n' c', .slice D' m' e']] w (RetT w (tof q q') (k + k' + 2)) := by
  have HT := Lib.hid (show tof q q' = ⟨q' / (((1 : Int) : Rat) + q), false⟩ by unfold tof; rw [if_neg (fun e => hz (show (1 : Rat) + q = 0 by grind))]; rfl)
  obtain ⟨s, hs⟩ : ∃ s, (((1 : Int) : Rat) + q).num.sign = s := ⟨_, rfl⟩
  have e0 := sgn_ne hs hz
  have HZ := Lib.hid hs
  have HNE := Lib.hid hz
  clear hz hs
  go_enter Tryz.func26, Tryz.ntmps26
  go_wp2_with fail
  have p1 := ((((Kp.refl w).alloc (.cells #[.bool b, .slice A n c, .slice D m e] 24)).alloc (.cells #[.bool b', .slice A' n' c', .slice D' m' e'] 24)).alloc (.cells #[.bool false, .slice none 0 0, .slice none 0 0, .bool false] 28))
  have bw1 := ((((brefl w).alloc (by first | omega | (simp <;> omega)) (.cells #[.bool b, .slice A n c, .slice D m e] 24)).alloc (by first | omega | (simp <;> omega)) (.cells #[.bool b', .slice A' n' c', .slice D' m' e'] 24)).alloc (by first | omega | (simp <;> omega)) (.cells #[.bool false, .slice none 0 0, .slice none 0 0, .bool false] 28))
  have x1a : Blk (((w.alloc (.cells #[.bool b, .slice A n c, .slice D m e] 24)).alloc (.cells #[.bool b', .slice A' n' c', .slice D' m' e'] 24)).alloc (.cells #[.bool false, .slice none 0 0, .slice none 0 0, .bool false] 28)) w.heap.size 24 #[.bool b, .slice A n c, .slice D m e] := (((blkAt _ _ _ (by simp)).alloc (.cells #[.bool b', .slice A' n' c', .slice D' m' e'] 24)).alloc (.cells #[.bool false, .slice none 0 0, .slice none 0 0, .bool false] 28))
  have x1b : Blk (((w.alloc (.cells #[.bool b, .slice A n c, .slice D m e] 24)).alloc (.cells #[.bool b', .slice A' n' c', .slice D' m' e'] 24)).alloc (.cells #[.bool false, .slice none 0 0, .slice none 0 0, .bool false] 28)) (w.heap.size + 1) 24 #[.bool b', .slice A' n' c', .slice D' m' e'] := ((blkAt _ _ _ (by simp)).alloc (.cells #[.bool false, .slice none 0 0, .slice none 0 0, .bool false] 28))
  have x1c : Blk (((w.alloc (.cells #[.bool b, .slice A n c, .slice D m e] 24)).alloc (.cells #[.bool b', .slice A' n' c', .slice D' m' e'] 24)).alloc (.cells #[.bool false, .slice none 0 0, .slice none 0 0, .bool false] 28)) (w.heap.size + 1 + 1) 28 #[.bool false, .slice none 0 0, .slice none 0 0, .bool false] := (blkAt _ _ _ (by simp))
  have lw1 : w.heap.size + 3 ≤ (((w.alloc (.cells #[.bool b, .slice A n c, .slice D m e] 24)).alloc (.cells #[.bool b', .slice A' n' c', .slice D' m' e'] 24)).alloc (.cells #[.bool false, .slice none 0 0, .slice none 0 0, .bool false] 28)).heap.size := by simp
  generalize hE1 : (((w.alloc (.cells #[.bool b, .slice A n c, .slice D m e] 24)).alloc (.cells #[.bool b', .slice A' n' c', .slice D' m' e'] 24)).alloc (.cells #[.bool false, .slice none 0 0, .slice none 0 0, .bool false] 28)) = w1 at p1 bw1 lw1 x1a x1b x1c ⊢
  clear hE1
  replace h := h.keep p1
  replace h' := h'.keep p1
  have cx1a := x1a.c3
  have lx1a := lts0 x1a.lt
  refine wp_region_lin (B := w.heap.size) (fr := fun xf => ⟨List.toArray (.agg #[.bool b, .slice A n c, .slice D m e] :: .agg #[.bool b', .slice A' n' c', .slice D' m' e'] :: .pointer (some ⟨w.heap.size, 0, none⟩) :: .pointer (some ⟨w.heap.size + 1, 0, none⟩) :: .pointer (some ⟨w.heap.size + 1 + 1, 0, none⟩) :: xf 3 :: xf 0 :: xf 1 :: xf 2 :: undef :: undef :: undef :: undef :: undef :: undef :: undef :: undef :: []), []⟩) (R := fun i => List.getD ((VQ (((1 : Int) : Rat)) (1)) :: (PEq (.agg #[.bool b, .slice A n c, .slice D m e])) :: (VQ ((((1 : Int) : Rat)) + (q)) ((1) + (k) + 1)) :: PAny :: PAny :: []) i (fun _ _ => True)) (es := [⟨3, 4, 24, #[.bool false, .slice none 0 0, .slice none 0 0], CQ ((((1 : Int) : Rat)) + (q)) ((1) + (k) + 1)⟩]) (ow := [⟨w.heap.size, 5, 0, 24, #[.bool b, .slice A n c, .slice D m e], CAny⟩, ⟨w.heap.size + 1, 5, 0, 24, #[.bool b', .slice A' n' c', .slice D' m' e'], CAny⟩, ⟨w.heap.size + 1 + 1, 5, 0, 28, #[.bool false, .slice none 0 0, .slice none 0 0, .bool false], CAny⟩]) (x0 := (fun _ => undef)) (by kernel_rfl)
    (each_of ⟨fun _ _ => rfl, fun _ _ => rfl, fun _ _ => rfl, fun _ _ => rfl, fun _ _ => rfl, trivial⟩) (each_of (acyc_from _ 0 (by kernel_rfl))) (AllStab.get _ ⟨stQ _ _, stEq _, stQ _ _, stAny, stAny, trivial⟩)
    (fmc ⟨scQ _ _, fun _ h => nomatch h⟩) (fmc ⟨scAny, fmc ⟨scAny, fmc ⟨scAny, fun _ h => nomatch h⟩⟩⟩) (fmc ⟨⟨by simp, by simp⟩, fun _ h => nomatch h⟩) bw1.size
    (fmc ⟨⟨x1a, by show w.heap.size ≤ w.heap.size; omega⟩, fmc ⟨⟨x1b, by show w.heap.size ≤ w.heap.size + 1; omega⟩, fmc ⟨⟨x1c, by show w.heap.size ≤ w.heap.size + 1 + 1; omega⟩, fun _ h => nomatch h⟩⟩⟩) (ownDist (by simp <;> omega))
    (each_of ⟨?_, ?_, ?_, ?_, ?_, trivial⟩) ?_
  · exact .inl ⟨by simp, by simp, fun xf wq hk hbl hd K hK => by
      (try dsimp only)
      go_simp
      go_at_call 25
      (with_reducible refine (f_of _ (1) ?_ ?_).mono ?_); (omega); (omega); rintro e wr ⟨b3, A3, n3, c3, A'3, n'3, c'3, rfl, h3, hbr⟩
      exact hK.out _ _ ⟨b3, A3, n3, c3, A'3, n'3, c'3, rfl, h3⟩ hbr⟩
  · exact .inl ⟨by simp, by simp, fun xf wq hk hbl hd K hK => by
      have y : Blk wq w.heap.size 24 #[.bool b, .slice A n c, .slice D m e] := hbl _ (List.Mem.head _) (by simp [Region.binds])
      have hcl0 := y.c3
      (try dsimp only)
      go_simp
      exact hK.out (.agg #[.bool b, .slice A n c, .slice D m e]) _ rfl (brefl _)⟩
  · exact .inl ⟨by simp, by simp, fun xf wq hk hbl hd K hK => by
      obtain ⟨b3, A3, n3, c3, A'3, n'3, c'3, d0, h3⟩ : VQ (((1 : Int) : Rat)) (1) (xf 0) wq := hd ⟨0, .data⟩ (by simp) rfl
      have d1 : xf 1 = .agg #[.bool b, .slice A n c, .slice D m e] := hd ⟨1, .data⟩ (by simp) rfl
      (try dsimp only); (try simp only [d0, d1])
      go_simp
      go_at_call 23
      (with_reducible refine (f_add _ b3 A3 n3 c3 A'3 n'3 c'3 (((1 : Int) : Rat)) (1) ?_ b A n c D m e (q) (k) ?_ ?_ ?_ ?_ ?_).mono ?_); (exact h3.qz); (exact (h.keep hk)); (omega); (omega); (omega); (omega); rintro e wr ⟨b4, A4, n4, c4, A'4, n'4, c'4, rfl, h4, hbr⟩
      have hz := hK.out _ _ ⟨b4, A4, n4, c4, A'4, n'4, c'4, rfl, h4⟩ hbr
      simp only [d0, d1] at hz
      exact hz⟩
  · exact .inr (.inl ⟨⟨3, 4, 24, #[.bool false, .slice none 0 0, .slice none 0 0], CQ ((((1 : Int) : Rat)) + (q)) ((1) + (k) + 1)⟩, by simp, rfl, by simp, by simp, by simp, fun _ _ => True.intro, fun xf wq K hK => by
      (try dsimp only)
      go_simp
      exact hK.out⟩)
  · exact .inr (.inr (.inl ⟨⟨3, 4, 24, #[.bool false, .slice none 0 0, .slice none 0 0], CQ ((((1 : Int) : Rat)) + (q)) ((1) + (k) + 1)⟩, by simp, rfl, by simp, by simp, by simp, by simp, (show KT 24 = false by decide), fun _ _ => True.intro, ⟨⟨3, .data⟩, by simp, rfl, rfl⟩, fun xf wq g hx hblk hd => by
      obtain ⟨b4, A4, n4, c4, A'4, n'4, c'4, d2, h4⟩ : VQ ((((1 : Int) : Rat)) + (q)) ((1) + (k) + 1) (xf 2) wq := hd ⟨2, .data⟩ (by simp) rfl
      dsimp only at hx hblk
      refine ⟨[.bool b4, .slice A4 n4 c4, .slice A'4 n'4 c'4], fun w' hk => ⟨b4, A4, n4, c4, A'4, n'4, c'4, rfl, h4.keep hk⟩, fun K hK => ?_⟩
      have hc0 : wq.cell? ⟨g, 0, none⟩ = some (.bool false) := hblk.cell 0
      have hc1 : wq.cell? ⟨g, 1, none⟩ = some (.slice none 0 0) := hblk.cell 1
      have hc2 : wq.cell? ⟨g, 2, none⟩ = some (.slice none 0 0) := hblk.cell 2
      have hf0 : wq.frozen? ⟨g, 0, none⟩ = false := hblk.frozen 0
      have hf1 : wq.frozen? ⟨g, 1, none⟩ = false := hblk.frozen 1
      have hf2 : wq.frozen? ⟨g, 2, none⟩ = false := hblk.frozen 2
      (try dsimp only)
      simp only [hx, d2]
      go_simp
      have hz := hK.out undef
      simp only [hx, d2] at hz
      exact hz⟩))
  clear cx1a lx1a
  intro y2 w2 kq2 hbl2 lw2 how hrr hfl hds
  replace h := h.keep kq2
  replace h' := h'.keep kq2
  obtain ⟨_, z2_0, ez, _⟩ := how _ (List.Mem.head _)
  obtain rfl := ez (by simp)
  dsimp only at z2_0
  obtain ⟨_, z2_1, ez, _⟩ := how _ (List.Mem.tail _ (List.Mem.head _))
  obtain rfl := ez (by simp)
  dsimp only at z2_1
  obtain ⟨_, z2_2, ez, _⟩ := how _ (List.Mem.tail _ (List.Mem.tail _ (List.Mem.head _)))
  obtain rfl := ez (by simp)
  dsimp only at z2_2
  obtain ⟨g5_2, _, eg5_2, Gg5_2, xg5_2, ⟨b4, A4, n4, c4, A'4, n'4, c'4, rfl, h4⟩⟩ := hfl _ (List.Mem.head _)
  dsimp only at eg5_2 Gg5_2 xg5_2
  have lgg5_2 : g5_2 < w2.heap.size := xg5_2.lt
  (try dsimp only)
  simp only [eg5_2]
  clear hrr hfl how hds eg5_2
  clear x1a x1b x1c
  have bw2 := bw1.trans hbl2
  clear bw1
  obtain ⟨cxg5_2_0, cxg5_2_1, cxg5_2_2⟩ := xg5_2.c3
  obtain ⟨lxg5_2_0, lxg5_2_1, lxg5_2_2, lxg5_2_3⟩ := lts0 xg5_2.lt
  go_wp2_with fail
  (with_reducible refine (f_sign_e _ b4 A4 n4 c4 A'4 n'4 c'4 ((((1 : Int) : Rat)) + (q)) ((1) + (k) + 1) ?_ (s) ?_ ?_ ?_).mono ?_); (exact h4.qz); (exact HZ.out); (omega); (omega); rintro e w6 ⟨rfl, q6⟩
  clear cxg5_2_0 cxg5_2_1 cxg5_2_2 lxg5_2_0 lxg5_2_1 lxg5_2_2 lxg5_2_3
  replace h := h.belw q6
  replace h' := h'.belw q6
  replace h4 := h4.belw q6
  replace z2_0 := z2_0.b q6
  replace z2_1 := z2_1.b q6
  replace z2_2 := z2_2.b q6
  replace xg5_2 := xg5_2.b q6
  have bw6 := bw2.trans (q6.mono bw2.size)
  have lw6 := q6.size
  clear q6 bw2
  have cz2_1 := z2_1.c3
  have lz2_1 := lts1 z2_1.lt
  obtain ⟨cxg5_2_0, cxg5_2_1, cxg5_2_2⟩ := xg5_2.c3
  obtain ⟨lxg5_2_0, lxg5_2_1, lxg5_2_2, lxg5_2_3⟩ := lts0 xg5_2.lt
  go_wp2_with fail
  (with_reducible refine (t_over _ b' A' n' c' D' m' e' (q') (k') ?_ b4 A4 n4 c4 A'4 n'4 c'4 ((((1 : Int) : Rat)) + (q)) ((1) + (k) + 1) ?_ ?_ ?_ ?_ ?_ ?_).mono ?_); (exact h'); (exact h4.qz); (omega); (omega); (omega); (omega); (exact HNE.out); rintro e w7 ⟨b7, A7, n7, c7, A'7, n'7, c'7, rfl, h7, q7⟩
  clear cz2_1 lz2_1 cxg5_2_0 cxg5_2_1 cxg5_2_2 lxg5_2_0 lxg5_2_1 lxg5_2_2 lxg5_2_3
  replace h := h.belw q7
  replace h' := h'.belw q7
  replace h4 := h4.belw q7
  replace z2_0 := z2_0.b q7
  replace z2_1 := z2_1.b q7
  replace z2_2 := z2_2.b q7
  replace xg5_2 := xg5_2.b q7
  have bw7 := bw6.trans (q7.mono bw6.size)
  have lw7 := q7.size
  clear q7 bw6
  have cz2_2 := z2_2.c4
  have fz2_2 := z2_2.f4
  have lz2_2 := lts2 z2_2.lt
  go_wp2_with fail
  rw [HT.out]
  refine bodyPost_ret (v := .agg #[.bool b7, .slice A7 n7 c7, .slice A'7 n'7 c'7, .bool false]) (by simp [results, Tryz.results26, go_sem, *] <;> trivial) rfl ?_
  have kp := (((((Kp.refl w7).sb (w.heap.size + 1 + 1) 0 z2_2.box (by decide) (.bool b7)).sb (w.heap.size + 1 + 1) 1 (z2_2.box.set ⟨w.heap.size + 1 + 1, 0, none⟩ (.bool b7)) (by decide) (.slice A7 n7 c7)).sb (w.heap.size + 1 + 1) 2 ((z2_2.box.set ⟨w.heap.size + 1 + 1, 0, none⟩ (.bool b7)).set ⟨w.heap.size + 1 + 1, 1, none⟩ (.slice A7 n7 c7)) (by decide) (.slice A'7 n'7 c'7)).sb (w.heap.size + 1 + 1) 3 (((z2_2.box.set ⟨w.heap.size + 1 + 1, 0, none⟩ (.bool b7)).set ⟨w.heap.size + 1 + 1, 1, none⟩ (.slice A7 n7 c7)).set ⟨w.heap.size + 1 + 1, 2, none⟩ (.slice A'7 n'7 c'7)) (by decide) (.bool false))
  exact ⟨b7, A7, n7, c7, A'7, n'7, c'7, false, rfl, (tv_mk (h7.keep kp)).mono (by omega), ((((bw7.sc (w.heap.size + 1 + 1) 0 (by omega) (.bool b7)).sc (w.heap.size + 1 + 1) 1 (by omega) (.slice A7 n7 c7)).sc (w.heap.size + 1 + 1) 2 (by omega) (.slice A'7 n'7 c'7)).sc (w.heap.size + 1 + 1) 3 (by omega) (.bool false))⟩
end Go.Proofs.YtianjkiakkclgaaGreatDoor

/- Walks: the turn of a point of the unit circle. -/
namespace Go.Proofs.YtianjkiakkclgaaGreatDoor
open Go Go.RowKit Bn
attribute [local go_sem ↓] Go.wp_at_zero Go.wp_at_succ
theorem f_cmp_e (w : World) (b A n c D m e q k) (h : QZ w b A n c D m e q k) (b' A' n' c' D' m' e' q' k') (h' : QZ w b' A' n' c' D' m' e' q' k') (he : q = q') (h0 : 0 < k) (hk : k ≤ 40000000) (h0' : 0 < k') (hk' : k' ≤ 40000000) : Calls Tryz.prog 22 #[.agg #[.bool b, .slice A n c, .slice D m e], .agg #[.bool b', .slice A' n' c', .slice D' m' e']] w (RetV w (.int .i64 0)) := by
  have := f_cmp w b A n c D m e q k h b' A' n' c' D' m' e' q' k' h' h0 hk h0' hk'
  rw [cmpI_rcmp, show rcmp q q' = 0 by subst he; unfold rcmp; rw [if_neg (by grind), if_pos rfl]] at this
  exact this
theorem t_of (w : World) (b A n c D m e q k) (h : QZ w b A n c D m e q k) (b' A' n' c' D' m' e' q' k') (h' : QZ w b' A' n' c' D' m' e' q' k') (h0 : 0 < k) (hk : k ≤ 1000000) (h0' : 0 < k') (hk' : k' ≤ 1000000) : Calls Tryz.prog 26 #[.agg #[.bool b, .slice A n c, .slice D m e], .agg #[.bool b', .slice A' n' c', .slice D' m' e']] w (RetT w (tof q q') (k + k' + 2)) := by
  by_cases hz : ((1 : Int) : Rat) + q = 0
  · exact t_of_0 w b A n c D m e q k h b' A' n' c' D' m' e' q' k' h' h0 hk h0' hk' hz
  · exact t_of_1 w b A n c D m e q k h b' A' n' c' D' m' e' q' k' h' h0 hk h0' hk' hz
theorem t_Of (w : World) (b A n c D m e q k) (h : QZ w b A n c D m e q k) (b' A' n' c' D' m' e' q' k') (h' : QZ w b' A' n' c' D' m' e' q' k') (h0 : 0 < k) (hk : k ≤ 1000000) (h0' : 0 < k') (hk' : k' ≤ 1000000) (hs : q * q + q' * q' = ((1 : Int) : Rat)) :
    Calls Tryz.prog 7 #[.agg #[.bool b, .slice A n c, .slice D m e], .agg #[.bool b', .slice A' n' c', .slice D' m' e']] w (RetTe w .nilIface (tof q q') (k + k' + 2)) := by
  have HS := Lib.hid hs
  clear hs
  go_enter Tryz.func7, Tryz.ntmps7
  go_wp2_with fail
  have p1 := ((((Kp.refl w).alloc (.cells #[.bool b, .slice A n c, .slice D m e] 24)).alloc (.cells #[.bool b', .slice A' n' c', .slice D' m' e'] 24)).alloc (.cells #[.bool false, .slice none 0 0, .slice none 0 0, .bool false] 28))
  have bw1 := ((((brefl w).alloc (by first | omega | (simp <;> omega)) (.cells #[.bool b, .slice A n c, .slice D m e] 24)).alloc (by first | omega | (simp <;> omega)) (.cells #[.bool b', .slice A' n' c', .slice D' m' e'] 24)).alloc (by first | omega | (simp <;> omega)) (.cells #[.bool false, .slice none 0 0, .slice none 0 0, .bool false] 28))
  have x1a : Blk (((w.alloc (.cells #[.bool b, .slice A n c, .slice D m e] 24)).alloc (.cells #[.bool b', .slice A' n' c', .slice D' m' e'] 24)).alloc (.cells #[.bool false, .slice none 0 0, .slice none 0 0, .bool false] 28)) w.heap.size 24 #[.bool b, .slice A n c, .slice D m e] := (((blkAt _ _ _ (by simp)).alloc (.cells #[.bool b', .slice A' n' c', .slice D' m' e'] 24)).alloc (.cells #[.bool false, .slice none 0 0, .slice none 0 0, .bool false] 28))
  have x1b : Blk (((w.alloc (.cells #[.bool b, .slice A n c, .slice D m e] 24)).alloc (.cells #[.bool b', .slice A' n' c', .slice D' m' e'] 24)).alloc (.cells #[.bool false, .slice none 0 0, .slice none 0 0, .bool false] 28)) (w.heap.size + 1) 24 #[.bool b', .slice A' n' c', .slice D' m' e'] := ((blkAt _ _ _ (by simp)).alloc (.cells #[.bool false, .slice none 0 0, .slice none 0 0, .bool false] 28))
  have x1c : Blk (((w.alloc (.cells #[.bool b, .slice A n c, .slice D m e] 24)).alloc (.cells #[.bool b', .slice A' n' c', .slice D' m' e'] 24)).alloc (.cells #[.bool false, .slice none 0 0, .slice none 0 0, .bool false] 28)) (w.heap.size + 1 + 1) 28 #[.bool false, .slice none 0 0, .slice none 0 0, .bool false] := (blkAt _ _ _ (by simp))
  have lw1 : w.heap.size + 3 ≤ (((w.alloc (.cells #[.bool b, .slice A n c, .slice D m e] 24)).alloc (.cells #[.bool b', .slice A' n' c', .slice D' m' e'] 24)).alloc (.cells #[.bool false, .slice none 0 0, .slice none 0 0, .bool false] 28)).heap.size := by simp
  generalize hE1 : (((w.alloc (.cells #[.bool b, .slice A n c, .slice D m e] 24)).alloc (.cells #[.bool b', .slice A' n' c', .slice D' m' e'] 24)).alloc (.cells #[.bool false, .slice none 0 0, .slice none 0 0, .bool false] 28)) = w1 at p1 bw1 lw1 x1a x1b x1c ⊢
  clear hE1
  replace h := h.keep p1
  replace h' := h'.keep p1
  obtain ⟨cx1aa, cx1ab, cx1ac⟩ := x1a.c3
  obtain ⟨lx1aa, lx1ab, lx1ac, lx1ad⟩ := lts0 x1a.lt
  obtain ⟨cx1ba, cx1bb, cx1bc⟩ := x1b.c3
  obtain ⟨lx1ba, lx1bb, lx1bc, lx1bd⟩ := lts1 x1b.lt
  obtain ⟨lx1ca, lx1cb, lx1cc, lx1cd⟩ := lts2 x1c.lt
  go_region_held3 (fun w' => Sees w1.heap.size w1 w') (first | with_reducible exact Sees.of (Nat.le_refl _) (by assumption) | with_reducible exact Sees.of (Nat.le_refl _) (brefl _).drew | exact Sees.of (Nat.le_refl _) (below_drewN (brefl _) 1) | exact Sees.of (Nat.le_refl _) (below_drewN (by assumption) _))
    (first
      | (go_at_call 24; (with_reducible refine (f_mul _ b A n c D m e (q) (k) ?_ b A n c D m e (q) (k) ?_ ?_ ?_ ?_ ?_).mono ?_); (exact h); (exact h); (omega); (omega); (omega); (omega); rintro e w2 ⟨b2, A2, n2, c2, A'2, n'2, c'2, rfl, h2, hb2⟩; replace hb2 := bnext (below_drewN (brefl _) 1) hb2; have q2 : Below w1.heap.size w1 w2 := bnext (brefl w1) hb2; replace h := h.belw hb2; replace h' := h'.belw hb2)
      | (go_at_call 24; (with_reducible refine (f_mul _ b' A' n' c' D' m' e' (q') (k') ?_ b' A' n' c' D' m' e' (q') (k') ?_ ?_ ?_ ?_ ?_).mono ?_); (exact h'); (exact h'); (omega); (omega); (omega); (omega); rintro e w3 ⟨b3, A3, n3, c3, A'3, n'3, c'3, rfl, h3, hb3⟩; have q3 : Below w1.heap.size w1 w3 := bnext q2 hb3; replace h := h.belw hb3; replace h' := h'.belw hb3; replace h2 := h2.belw hb3)
      | (go_at_call 23; (with_reducible refine (f_add _ b2 A2 n2 c2 A'2 n'2 c'2 ((q) * (q)) ((k) + (k)) ?_ b3 A3 n3 c3 A'3 n'3 c'3 ((q') * (q')) ((k') + (k')) ?_ ?_ ?_ ?_ ?_).mono ?_); (exact h2.qz); (exact h3.qz); (omega); (omega); (omega); (omega); rintro e w4 ⟨b4, A4, n4, c4, A'4, n'4, c'4, rfl, h4, hb4⟩; have q4 : Below w1.heap.size w1 w4 := bnext q3 hb4; replace h := h.belw hb4; replace h' := h'.belw hb4; replace h2 := h2.belw hb4; replace h3 := h3.belw hb4)
      | (go_at_call 25; (with_reducible refine (f_of _ (1) ?_ ?_).mono ?_); (omega); (omega); rintro e w5 ⟨b5, A5, n5, c5, A'5, n'5, c'5, rfl, h5, hb5⟩; have q5 : Below w1.heap.size w1 w5 := bnext q4 hb5; replace h := h.belw hb5; replace h' := h'.belw hb5; replace h2 := h2.belw hb5; replace h3 := h3.belw hb5; replace h4 := h4.belw hb5)
      | (go_at_call 22; (with_reducible refine (f_cmp_e _ b4 A4 n4 c4 A'4 n'4 c'4 (((q) * (q)) + ((q') * (q'))) (((k) + (k)) + ((k') + (k')) + 1) ?_ b5 A5 n5 c5 A'5 n'5 c'5 (((1 : Int) : Rat)) (1) ?_  ?_ ?_ ?_ ?_ ?_).mono ?_); (exact h4.qz); (exact h5.qz); (exact HS.out); (omega); (omega); (omega); (omega); rintro e w6 ⟨rfl, hb6⟩; have q6 : Below w1.heap.size w1 w6 := bnext q5 hb6; replace h := h.belw hb6; replace h' := h'.belw hb6; replace h2 := h2.belw hb6; replace h3 := h3.belw hb6; replace h4 := h4.belw hb6; replace h5 := h5.belw hb6))
  have bw6 := bw1.trans (q6.mono bw1.size)
  clear cx1aa cx1ab cx1ac lx1aa lx1ab lx1ac lx1ad cx1ba cx1bb cx1bc lx1ba lx1bb lx1bc lx1bd lx1ca lx1cb lx1cc lx1cd
  replace x1a := x1a.b q6
  replace x1b := x1b.b q6
  replace x1c := x1c.b q6
  have lw6 := q6.size
  obtain ⟨cx1aa, cx1ab, cx1ac⟩ := x1a.c3
  obtain ⟨lx1aa, lx1ab, lx1ac, lx1ad⟩ := lts0 x1a.lt
  obtain ⟨cx1ba, cx1bb, cx1bc⟩ := x1b.c3
  obtain ⟨lx1ba, lx1bb, lx1bc, lx1bd⟩ := lts1 x1b.lt
  go_wp2_with fail
  (with_reducible refine (t_of _ b A n c D m e (q) (k) ?_ b' A' n' c' D' m' e' (q') (k') ?_ ?_ ?_ ?_ ?_).mono ?_); (exact h); (exact h'); (omega); (omega); (omega); (omega); rintro e w7 ⟨b7, A7, n7, c7, A'7, n'7, c'7, x7, rfl, h7, q7⟩
  clear cx1aa cx1ab cx1ac lx1aa lx1ab lx1ac lx1ad cx1ba cx1bb cx1bc lx1ba lx1bb lx1bc lx1bd
  replace h := h.belw q7
  replace h' := h'.belw q7
  replace h2 := h2.belw q7
  replace h3 := h3.belw q7
  replace h4 := h4.belw q7
  replace h5 := h5.belw q7
  replace x1a := x1a.b q7
  replace x1b := x1b.b q7
  replace x1c := x1c.b q7
  have bw7 := bw6.trans (q7.mono bw6.size)
  have lw7 := q7.size
  clear q7 bw6
  have cx1c := x1c.c4
  have fx1c := x1c.f4
  obtain ⟨lx1ca, lx1cb, lx1cc, lx1cd⟩ := lts2 x1c.lt
  go_wp2_with fail
  refine bodyPost_ret (v := .tuple #[.agg #[.bool b7, .slice A7 n7 c7, .slice A'7 n'7 c'7, .bool x7], .nilIface]) (by simp [results, Tryz.results7, go_sem, *] <;> trivial) rfl ?_
  have kp := (((((Kp.refl w7).sb (w.heap.size + 1 + 1) 0 x1c.box (by decide) (.bool b7)).sb (w.heap.size + 1 + 1) 1 (x1c.box.set ⟨w.heap.size + 1 + 1, 0, none⟩ (.bool b7)) (by decide) (.slice A7 n7 c7)).sb (w.heap.size + 1 + 1) 2 ((x1c.box.set ⟨w.heap.size + 1 + 1, 0, none⟩ (.bool b7)).set ⟨w.heap.size + 1 + 1, 1, none⟩ (.slice A7 n7 c7)) (by decide) (.slice A'7 n'7 c'7)).sb (w.heap.size + 1 + 1) 3 (((x1c.box.set ⟨w.heap.size + 1 + 1, 0, none⟩ (.bool b7)).set ⟨w.heap.size + 1 + 1, 1, none⟩ (.slice A7 n7 c7)).set ⟨w.heap.size + 1 + 1, 2, none⟩ (.slice A'7 n'7 c'7)) (by decide) (.bool x7))
  exact ⟨b7, A7, n7, c7, A'7, n'7, c'7, x7, rfl, h7.keep kp, ((((bw7.sc (w.heap.size + 1 + 1) 0 (by omega) (.bool b7)).sc (w.heap.size + 1 + 1) 1 (by omega) (.slice A7 n7 c7)).sc (w.heap.size + 1 + 1) 2 (by omega) (.slice A'7 n'7 c'7)).sc (w.heap.size + 1 + 1) 3 (by omega) (.bool x7))⟩
end Go.Proofs.YtianjkiakkclgaaGreatDoor

/- Walks: words of a list, validity, sign, copies without zeros at the end. -/
namespace Go.Proofs.YtianjkiakkclgaaGreatDoor
open Go Go.RowKit Bn
attribute [local go_sem ↓] Go.wp_at_zero Go.wp_at_succ

theorem r_word_c (w : World) (A : Option Addr) (n c : Nat) (l : List Nat) (h : Wd w A n c l) (i : Int) (hi : 0 ≤ i) (hn : n ≤ 4398046511104) :
  Calls Tryz.prog 137 #[.slice A n c, .int .i64 i] w fun e w' => e = .returned (.int .u64 (wd l i.toNat : Nat)) ∧ w = w' := by
 obtain ⟨k, rfl⟩ := Int.eq_ofNat_of_zero_le hi
 have hl := h.lt k
 have hlen : n = l.length := h.2.1
 by_cases hk : k < n
 ·obtain ⟨g, o, rfl, hc⟩ := h.at_ (by omega)
  have hck := hc k hk
  clear hc hi
  have H := Lib.hid hlen
  clear hlen
  go_enter Tryz.func137, Tryz.ntmps137
  go_wp2
  go_ret
  exact ⟨by simp, rfl⟩
 ·have hz : wd l k = 0 := wd_ge (by omega)
  have H := Lib.hid hz
  have H2 := Lib.hid hlen
  clear hz hi hlen
  go_enter Tryz.func137, Tryz.ntmps137
  go_wp2
  go_ret
  exact ⟨by simp [H.out], rfl⟩

theorem r_word_x (w : World) (A : Option Addr) (n c : Nat) (l : List Nat) (h : Wd w A n c l) (k x : Nat) (hx : wd l k = x) (hn : n ≤ 4398046511104) :
    Calls Tryz.prog 137 #[.slice A n c, .int .i64 (k : Nat)] w fun e w' => e = .returned (.int .u64 (x : Nat)) ∧ w = w' := by
  subst hx
  have := r_word_c w A n c l h (k : Nat) (by omega) hn
  simpa using this

theorem r_valid_c (w : World) (b : Bool) (A : Option Addr) (n c : Nat) (l : List Nat) (h : Wd w A n c l) (hn : n ≤ 1099511627776) :
  Calls Tryz.prog 136 #[.agg #[.bool b, .slice A n c]] w (RetV w (.bool (WD.ok ⟨b, l⟩))) := by
 have HL := Lib.hid h.2.1
 by_cases h0 : n = 0
 ·subst h0
  have hl : l = [] := List.eq_nil_of_length_eq_zero HL.out.symm
  have HE := Lib.hid (show WD.ok ⟨b, l⟩ = !b by unfold WD.ok; simp [hl])
  clear hl
  go_enter Tryz.func136, Tryz.ntmps136
  go_wp2
  go_ret
  exact retB HE.out.symm ((Below.refl _ _).alloc (Nat.le_refl _) _)
 ·obtain ⟨g, o, rfl, hgl, hc⟩ := h.at2 (by omega)
  have hck := hc (n - 1) (by omega)
  have hlt := h.lt (n - 1)
  have he : WD.ok ⟨b, l⟩ = !decide (wd l (n - 1) = 0) := by
   have hne : l ≠ [] := by rintro rfl; have := HL.out; simp at this; omega
   unfold WD.ok
   simp only [if_neg hne, ← HL.out]
   by_cases hz : wd l (n - 1) = 0 <;> simp [hz]
  have HE := Lib.hid he
  clear he
  have hn0 : ((n : Int) == 0) = false := by simp; omega
  have hp : 0 < n := by omega
  clear hc h0
  generalize hgx : wd l (n - 1) = x at *
  clear hgx
  go_enter Tryz.func136, Tryz.ntmps136
  go_wp2
  go_ret
  refine retB ?_ ((Below.refl _ _).alloc (Nat.le_refl _) _)
  rw [HE.out]
  by_cases hz : x = 0 <;> simp [hz]

theorem r_mag_c (w : World) (b : Bool) (A : Option Addr) (n c : Nat) (l : List Nat) (h : Wd w A n c l) (hn : n ≤ 1099511627776) :
  Calls Tryz.prog 101 #[.agg #[.bool b, .slice A n c]] w (RetL w (WD.m ⟨b, l⟩)) := by
 cases hk : WD.ok ⟨b, l⟩
 ·have HK := Lib.hid hk
  go_enter Tryz.func101, Tryz.ntmps101
  go_wp2_with (go_at_call 136; refine (r_valid_c _ b A n c l (h.keep ((Kp.refl _).alloc _)) hn).mono ?_; rintro e w1 ⟨rfl, hb⟩)
  go_ret
  refine ⟨none, 0, 0, rfl, ?_, ((Below.refl _ _).alloc (Nat.le_refl _) _).trans (hb.mono (by simp))⟩
  unfold WD.m; rw [HK.out]; exact Wd.nil_ _
 ·have HK := Lib.hid hk
  go_enter Tryz.func101, Tryz.ntmps101
  go_wp2_with (go_at_call 136; refine (r_valid_c _ b A n c l (h.keep ((Kp.refl _).alloc _)) hn).mono ?_; rintro e w1 ⟨rfl, hb⟩; obtain ⟨hc, hf⟩ := bcell hb)
  go_ret
  refine ⟨A, n, c, rfl, ?_, ((Below.refl _ _).alloc (Nat.le_refl _) _).trans (hb.mono (by simp))⟩
  unfold WD.m; rw [HK.out]; exact h.keep (((Kp.refl _).alloc _).below hb)

theorem r_neg_c (w : World) (b : Bool) (A : Option Addr) (n c : Nat) (l : List Nat) (h : Wd w A n c l) (hn : n ≤ 1099511627776) :
  Calls Tryz.prog 102 #[.agg #[.bool b, .slice A n c]] w (RetV w (.bool (WD.s ⟨b, l⟩))) := by
 cases hk : WD.ok ⟨b, l⟩
 ·have HK := Lib.hid hk
  go_enter Tryz.func102, Tryz.ntmps102
  go_wp2_with (go_at_call 136; refine (r_valid_c _ b A n c l (h.keep ((Kp.refl _).alloc _)) hn).mono ?_; rintro e w1 ⟨rfl, hb⟩)
  go_ret
  refine retB ?_ (((Below.refl _ _).alloc (Nat.le_refl _) _).trans (hb.mono (by simp)))
  unfold WD.s; rw [HK.out]; rfl
 ·have HK := Lib.hid hk
  go_enter Tryz.func102, Tryz.ntmps102
  go_wp2_with (go_at_call 136; refine (r_valid_c _ b A n c l (h.keep ((Kp.refl _).alloc _)) hn).mono ?_; rintro e w1 ⟨rfl, hb⟩; obtain ⟨hc, hf⟩ := bcell hb)
  go_ret
  refine retB ?_ (((Below.refl _ _).alloc (Nat.le_refl _) _).trans (hb.mono (by simp)))
  unfold WD.s; rw [HK.out]; simp

end Go.Proofs.YtianjkiakkclgaaGreatDoor

/- Walks: the reference's copies without zeros at the end, and the integer of words. -/
namespace Go.Proofs.YtianjkiakkclgaaGreatDoor
open Go Go.RowKit Bn
attribute [local go_sem ↓] Go.wp_at_zero Go.wp_at_succ

theorem Wd.cut_ {w : World} {g o n c : Nat} {l : List Nat} (h : Wd w (some ⟨g, o, none⟩) n c l) {j : Nat} (hj : j ≤ n) : Wd w (some ⟨g, o, none⟩) j c (l.take j) := by
  have hl := h.2.1
  refine ⟨Wds.take h.1 j, by rw [List.length_take]; omega, Nat.le_trans hj h.2.2.1, fun h0 => ?_⟩
  obtain ⟨g', o', cur, fr, e, hb, hc⟩ := h.2.2.2 (by omega)
  refine ⟨g', o', cur, fr, e, hb, fun i hi => ?_⟩
  rw [hc i (by omega)]
  have : wd (l.take j) i = wd l i := by simp [wd, List.getD, hi]
  rw [this]
theorem run_append_empty {P : Program} (w : World) (t ty e : TypeId) (i : TypeInfo) (ht : P.underlying t = some (.slice e)) (hi : P.info? e = some i) (g : Nat) (A : Option Addr) (c : Nat) :
    (Builtin.append_ #[t, t] ty #[.slice (some ⟨g, 0, none⟩) 0 0, .slice A 0 c]).run P w = .ok (.slice (some ⟨g, 0, none⟩) 0 0) w := by
  cases A <;> simp [Builtin.append_, run_underlying ht, sizeOf, typeInfo, hi, Builtin.lenOf, Builtin.firstCells, loadCells, loadCellsFrom, storeCells]
theorem wpList_append_empty {P : Program} {w : World} {ops : Array Oper} {rest : List Oper} {o : Oper} {a : Act} {Q : Exit → Act → World → Prop} (hgd : o.guard = none) (s x : Operand) (t : TypeId)
    (ho : o.op = .call { callee := .builtin .append, args := #[s, x], argTypes := #[t, t] })
    (e : TypeId) (i : TypeInfo) (ht : P.underlying t = some (.slice e)) (hi : P.info? e = some i)
    (g : Nat) (A : Option Addr) (c : Nat) (hs : a.eval s = .slice (some ⟨g, 0, none⟩) 0 0) (hx : a.eval x = .slice A 0 c)
    (h : wpList P ops Q rest (a.put o.dst (.slice (some ⟨g, 0, none⟩) 0 0)) w) : wpList P ops Q (o :: rest) a w := by
  refine wpList_plain hgd fun K hK => ?_
  have hrun := run_append_empty (P := P) w t o.type e i ht hi g A c
  unfold Oper.wp
  simp [execOp, ho, resolve, invoke, builtin, hs, hx, hrun, Result.andThen]
  exact hK _ _ h
theorem r_trim_c (w : World) (A : Option Addr) (n c : Nat) (l : List Nat) (h : Wd w A n c l) (hn : n ≤ 4398046511104) :
  Calls Tryz.prog 135 #[.slice A n c] w (RetL w (digs (val l))) := by
 have HL := Lib.hid h.2.1
 have hcap : n ≤ c := h.2.2.1
 obtain ⟨i0, hi0, hz0, hz1, hz2⟩ := info_parts info_u32
 by_cases h0 : n = 0
 ·subst h0
  have HE := Lib.hid (show digs (val l) = [] by rw [List.eq_nil_of_length_eq_zero HL.out.symm]; exact digs_zero)
  clear h hn
  go_enter Tryz.func135, Tryz.ntmps135
  go_wp2_with (at_builtin; refine wpList_append_empty rfl _ _ _ rfl 100 i0 Tryz.underlying22 hi0 _ _ _ rfl rfl ?_)
  go_loop [3] (fun v => v = .slice (some ⟨w.heap.size, 0, none⟩) 0 0) (fun _ => 0)
  case atStart => rfl
  case round =>
   subst hrel
   go_wp2
   go_ret
   refine ⟨_, _, _, rfl, ?_, (Below.refl _ _).alloc (Nat.le_refl _) _⟩
   rw [HE.out]
   exact ⟨by simp [Wds], rfl, Nat.le_refl _, fun h => absurd h (by omega)⟩
 ·obtain ⟨g, o, rfl, hc⟩ := h.at_ (by omega)
  clear hc
  have hp : 0 < n := by omega
  have hown := World.ownsRow_lit (e := 100) (size := 1) w #[] 0 (Nat.le_refl _) (by simp [maxLen]) rfl
  have hnews := (h.keep ((Kp.refl w).alloc (.cells #[] 100))).news (by omega) (Nat.le_refl _)
  have hnl : (words (l.take n)).length = n * 1 := by rw [words_len, List.length_take, ← HL.out]; omega
  have HO := Lib.hid hown
  have HN := Lib.hid hnews
  have HNL := Lib.hid hnl
  have HW := Lib.hid h.1
  clear hown hnews hnl h h0
  go_enter Tryz.func135, Tryz.ntmps135
  go_wp2_with (at_builtin; refine wpList_append_lies _ rfl _ _ _ rfl w.heap.size 100 i0 (.int .u32 0) 1 4 Tryz.underlying22 hi0 hz0 hz1 hz2 rfl (by omega) _ 0 [] rfl HO.out ⟨g, o, none⟩ n c (words (l.take n)) rfl HNL.out HN.out (words_one _) (by omega) (by unfold maxLen; omega) (by omega) (by simp) (w.heap.size + 1) (by simp) ?_; intro gx cap w1 hown1 hgrow hat hlt1)
  simp only [Nat.zero_add, List.nil_append] at hown1
  have hw1 := Wd.of_own hown1 (Wds.take HW.out n)
  rw [List.take_of_length_le (Nat.le_of_eq HL.out.symm)] at hw1
  have hbel := ((Below.refl w.heap.size w).alloc (Nat.le_refl _) (.cells #[] 100)).grown hgrow (by simp) (fun b hb => Nat.le_of_eq (Option.some.inj hb))
  have HW1 := Lib.hid hw1
  have HB := Lib.hid hbel
  have hcap1 : n ≤ cap := hw1.2.2.1
  clear hown1 hgrow hat hw1 hbel HO HN HNL
  go_loop [3] (fun v => ∃ k : Nat, k ≤ n ∧ v = .slice (some ⟨gx, 0, none⟩) k cap ∧ TrimI l k) (fun v => match v with | .slice _ k _ => k | _ => 0)
  case atStart => exact ⟨n, Nat.le_refl _, by simp, fun i hi => wd_ge (by rw [← HL.out]; exact hi)⟩
  case round =>
   obtain ⟨k, hk, rfl, ht⟩ := hrel
   by_cases h0 : k = 0
   ·subst h0
    have HT := Lib.hid ht
    clear ht
    go_wp2
    go_ret
    refine ⟨_, _, _, rfl, ?_, HB.out⟩
    have := digs_of_take HW.out (Nat.zero_le _) HT.out (.inl rfl)
    rw [this]; exact HW1.out.cut_ (Nat.zero_le _)
   ·have hkp : 0 < k := by omega
    obtain ⟨g', o', e, hc⟩ := HW1.out.at_ (by omega)
    injection e with e; injection e with e1 e2
    subst e1 e2
    have hck := hc (k - 1) (by omega)
    rw [Nat.zero_add] at hck
    have hlt := HW1.out.lt (k - 1)
    have HT := Lib.hid ht
    generalize hx : wd l (k - 1) = x at *
    have HX := Lib.hid hx
    clear hc h0 ht hx
    by_cases hz : x = 0
    ·subst hz
     go_wp2
     go_round
     case rel => exact ⟨k - 1, by omega, rfl, fun i hi => by
      by_cases he : i = k - 1
      ·subst he; exact HX.out
      ·exact HT.out i (by omega)⟩
     case measure => dsimp only; omega
    ·have hz' : ((x : Int) == 0) = false := by simp; omega
     have HZ := Lib.hid hz
     clear hz
     go_wp2
     go_ret
     have hd := digs_of_take HW.out (by rw [← HL.out]; exact hk) HT.out (.inr (by rw [HX.out]; exact HZ.out))
     refine ⟨_, _, _, rfl, ?_, HB.out⟩
     rw [hd]; exact HW1.out.cut_ hk
end Go.Proofs.YtianjkiakkclgaaGreatDoor

/- Walks: the reference's integer of words, comparison of lists. -/
namespace Go.Proofs.YtianjkiakkclgaaGreatDoor
open Go Go.RowKit Bn
attribute [local go_sem ↓] Go.wp_at_zero Go.wp_at_succ

theorem r_form_c (w : World) (b : Bool) (A : Option Addr) (n c : Nat) (l : List Nat) (h : Wd w A n c l) (hn : n ≤ 1099511627776) :
  Calls Tryz.prog 100 #[.bool b, .slice A n c] w (RetW w (wh (sgn b (val l)))) := by
 rw [wh_sgn]
 go_enter Tryz.func100, Tryz.ntmps100
 go_wp2_with fail
 (with_reducible refine (r_trim_c _ A n c l ?_ ?_).mono ?_); (exact h.keep ((Kp.refl _).alloc _)); (omega); rintro e w1 ⟨A1, n1, c1, rfl, h1, hb⟩
 have q : Below w.heap.size w w1 := ((Below.refl _ _).alloc (Nat.le_refl _) _).trans (hb.mono (by simp))
 have x : Blk w1 w.heap.size 77 #[.bool false, .slice none 0 0] := (blkAt w _ _ rfl).below hb (by simp)
 have c0 : w1.cell? ⟨w.heap.size, 0, none⟩ = some (.bool false) := x.cell 0
 have c1' : w1.cell? ⟨w.heap.size, 1, none⟩ = some (.slice none 0 0) := x.cell 1
 have f0 := x.f2
 have HL := Lib.hid h1.2.1
 clear hb h
 by_cases h0 : n1 = 0
 ·subst h0
  have HE := Lib.hid (List.eq_nil_of_length_eq_zero HL.out.symm)
  have H1 := Lib.hid h1
  clear h1
  go_wp2
  refine bodyPost_ret (v := .agg #[.bool false, .slice none 0 0]) (by simp [results, Tryz.results100, go_sem, *] <;> trivial) rfl ?_
  rw [HE.out]
  exact ⟨none, 0, 0, by simp, Wd.nil_ _, (q.setCell (p := ⟨w.heap.size, 0, none⟩) (Nat.le_refl _) _).setCell (p := ⟨w.heap.size, 1, none⟩) (Nat.le_refl _) _⟩
 ·have e0 : ((n1 : Int) == 0) = false := by simp; omega
  have hp : 0 < n1 := by omega
  have H1 := Lib.hid h1
  clear h1 h0
  go_wp2
  refine bodyPost_ret (v := .agg #[.bool b, .slice A1 n1 c1]) (by simp [results, Tryz.results100, go_sem, *] <;> trivial) rfl ?_
  refine ⟨A1, n1, c1, ?_, H1.out.keep (kp2 x.box (by decide) _ _ _ _), (q.setCell (p := ⟨w.heap.size, 0, none⟩) (Nat.le_refl _) _).setCell (p := ⟨w.heap.size, 1, none⟩) (Nat.le_refl _) _⟩
  have : decide (0 < (digs (val l)).length) = true := by rw [← HL.out]; simp [hp]
  rw [this]; simp
theorem r_compare_c (w : World) (A n c l) (wa : Wd w A n c l) (hn : n ≤ 1099511627776) (A' n' c' l') (wb : Wd w A' n' c' l') (hn' : n' ≤ 1099511627776) :
  Calls Tryz.prog 104 #[.slice A n c, .slice A' n' c'] w (RetV w (.int .i64 (cmpN (val l) (val l')))) := by
 have HL := Lib.hid wa.2.1
 have HL' := Lib.hid wb.2.1
 obtain ⟨M, hM⟩ : ∃ M, M = max n n' := ⟨_, rfl⟩
 have HM := Lib.hid hM
 have hM3 : M ≤ 1099511627776 := by omega
 clear hM
 go_enter Tryz.func104, Tryz.ntmps104
 go_wp2
 all_goals
  go_loop [5] (fun v => ∃ k : Nat, k ≤ M ∧ v = .int .i64 ((k : Int) - 1) ∧ CmpI l l' k) (fun v => (intOf v + 1).toNat)
  case atStart => exact ⟨M, Nat.le_refl _, by have := HM.out; rw [show (M : Int) - 1 = _ from rfl]; congr 1; omega, fun j hj => by rw [wd_ge (by rw [← HL.out]; have := HM.out; omega), wd_ge (by rw [← HL'.out]; have := HM.out; omega)]⟩
  case round =>
   obtain ⟨k, hk, rfl, hI⟩ := hrel
   by_cases h0 : k = 0
   ·subst h0
    have HE := Lib.hid (show cmpN (val l) (val l') = 0 by unfold cmpN; rw [val_eq_of (fun j => hI j (Nat.zero_le _))]; simp)
    clear hI
    go_wp2
    go_ret
    exact retI HE.out.symm (Below.refl _ _)
   ·obtain ⟨j, rfl⟩ : ∃ j, k = j + 1 := ⟨k - 1, by omega⟩
    obtain ⟨x, y, hx, hy⟩ : ∃ x y, wd l j = x ∧ wd l' j = y := ⟨_, _, rfl, rfl⟩
    have HX := Lib.hid hx
    have HY := Lib.hid hy
    have HI := Lib.hid hI
    have ej : (((j + 1 : Nat) : Int) - 1) = (j : Int) := by omega
    rw [ej]
    clear hx hy hI h0 ej
    rcases Nat.lt_trichotomy x y with hxy | rfl | hxy
    ·have hne : ((x : Int) != (y : Int)) = true := by rw [bne_iff_ne]; omega
     have HE := Lib.hid (show cmpN (val l) (val l') = -1 by unfold cmpN; rw [if_pos (val_lt_of wa.1 (i := j) (by rw [HX.out, HY.out]; exact hxy) (fun i hi => HI.out i (by omega)))])
     go_wp2_with (first
      | (go_at_call 137; (with_reducible refine (r_word_x _ A n c l ?_ j x HX.out (by omega)).mono ?_); exact wa; rintro e w' ⟨rfl, rfl⟩)
      | (go_at_call 137; (with_reducible refine (r_word_x _ A' n' c' l' ?_ j y HY.out (by omega)).mono ?_); exact wb; rintro e w' ⟨rfl, rfl⟩))
     go_ret
     exact retI HE.out.symm (Below.refl _ _)
    ·go_wp2_with (first
      | (go_at_call 137; (with_reducible refine (r_word_x _ A n c l ?_ j x HX.out (by omega)).mono ?_); exact wa; rintro e w' ⟨rfl, rfl⟩)
      | (go_at_call 137; (with_reducible refine (r_word_x _ A' n' c' l' ?_ j x HY.out (by omega)).mono ?_); exact wb; rintro e w' ⟨rfl, rfl⟩))
     go_round
     case rel => exact ⟨j, by omega, by go_num, fun i hi => by
      by_cases hij : i = j
      ·subst hij; rw [HX.out, HY.out]
      ·exact HI.out i (by omega)⟩
     case measure => simp [intOf]
    ·have hne : ((x : Int) != (y : Int)) = true := by rw [bne_iff_ne]; omega
     have HE := Lib.hid (show cmpN (val l) (val l') = 1 by
      have := val_lt_of wb.1 (i := j) (by rw [HX.out, HY.out]; exact hxy) (fun i hi => (HI.out i (by omega)).symm)
      unfold cmpN; rw [if_neg (by omega), if_neg (by omega)])
     go_wp2_with (first
      | (go_at_call 137; (with_reducible refine (r_word_x _ A n c l ?_ j x HX.out (by omega)).mono ?_); exact wa; rintro e w' ⟨rfl, rfl⟩)
      | (go_at_call 137; (with_reducible refine (r_word_x _ A' n' c' l' ?_ j y HY.out (by omega)).mono ?_); exact wb; rintro e w' ⟨rfl, rfl⟩))
     go_ret
     exact retI HE.out.symm (Below.refl _ _)
end Go.Proofs.YtianjkiakkclgaaGreatDoor

/- Walks: the reference's sums and differences of lists. -/
namespace Go.Proofs.YtianjkiakkclgaaGreatDoor
open Go Go.RowKit Bn
attribute [local go_sem ↓] Go.wp_at_zero Go.wp_at_succ

theorem wd_snoc_lt {L : List Nat} {d i : Nat} (h : i < L.length) : wd (L ++ [d]) i = wd L i := by
  simp [wd, List.getD, List.getElem?_append_left h]
theorem wd_snoc {L : List Nat} {d : Nat} : wd (L ++ [d]) L.length = d := by simp [wd, List.getD]
theorem Sm_snoc {L : List Nat} {d k : Nat} (h : L.length = k) : Sm (wd (L ++ [d])) (k + 1) = Sm (wd L) k + d * 4294967296 ^ k := by
  subst h
  rw [Sm, wd_snoc, Sm_congr (fun i hi => wd_snoc_lt hi)]
theorem wds_snoc {L : List Nat} {d : Nat} (h : Wds L) (hd : d < 4294967296) : Wds (L ++ [d]) := by
  intro x hx
  rcases List.mem_append.1 hx with h1 | h1
  · exact h x h1
  · simp at h1; omega
theorem words_snoc (L : List Nat) (d : Nat) : words (L ++ [d]) = words L ++ [.int .u32 (d : Nat)] := by simp [words]
theorem own_base {w : World} {base : Nat} {e : TypeId} {size : Nat} {v : Value} {n : Nat} {xs : List Value} (h : w.ownsRow base e size v n xs) : ∀ b, v.ownBlock = some b → base ≤ b := by
  intro b hb
  rcases h.2 with ⟨rfl, _⟩ | ⟨g, c, cur, rfl, h1, _⟩
  · simp [Value.ownBlock] at hb
  · simp [Value.ownBlock] at hb; omega
theorem r_plus_1 (w : World) (A n c l) (wa : Wd w A n c l) (hn : n ≤ 1099511627776) (A' n' c' l') (wb : Wd w A' n' c' l') (hn' : n' ≤ 1099511627776) (hle : n ≤ n') :
  Calls Tryz.prog 103 #[.slice A n c, .slice A' n' c'] w (RetL w (digs (val l + val l'))) := by
 have HL := Lib.hid wa.2.1
 have HL' := Lib.hid wb.2.1
 obtain ⟨i0, hi0, hz0, hz1, hz2⟩ := info_parts info_u32
 go_enter Tryz.func103, Tryz.ntmps103
 go_wp2_with fail
 go_loopw [5, 6, 15] (fun ov cv iv wr => ∃ (k cr : Nat) (L : List Nat), k ≤ n' + 1 ∧ iv = .int .i64 (k : Nat) ∧ cv = .int .u64 (cr : Nat) ∧ cr ≤ 1 ∧ L.length = k ∧ PlusI l l' L k cr ∧ wr.ownsRow w.heap.size 100 1 ov k (words L) ∧ Below w.heap.size w wr) (fun _ _ iv _ => n' + 1 - (intOf iv).toNat)
 case atStart => exact ⟨0, 0, [], Nat.zero_le _, rfl, rfl, by omega, rfl, ⟨by simp [Wds], by simp [Sm]⟩, ⟨rfl, .inl ⟨rfl, rfl⟩⟩, brefl _⟩
 case round =>
  obtain ⟨k, cr, L, hk, rfl, rfl, hcr, hLk, hI, hown, hbel⟩ := hrel
  have hKp := Lib.hid ((Kp.refl w).below hbel)
  have HI := Lib.hid hI
  have HLk := Lib.hid hLk
  have HO := Lib.hid hown
  clear hI hLk hown
  by_cases hkM : k < n' + 1
  ·obtain ⟨x, y, hx, hy⟩ : ∃ x y, wd l k = x ∧ wd l' k = y := ⟨_, _, rfl, rfl⟩
   have hx1 : x < 4294967296 := by rw [← hx]; exact wa.lt k
   have hy1 : y < 4294967296 := by rw [← hy]; exact wb.lt k
   have HX := Lib.hid hx
   have HY := Lib.hid hy
   have hsz := hbel.size
   have HD := Lib.hid (plus_step (x := x) (y := y) HI.out.2)
   clear hx hy
   go_wp2_with (first
    | (go_at_call 137; (with_reducible refine (r_word_x _ A n c l ?_ k x HX.out (by omega)).mono ?_); exact wa.keep hKp.out; rintro e w' ⟨rfl, rfl⟩)
    | (go_at_call 137; (with_reducible refine (r_word_x _ A' n' c' l' ?_ k y HY.out (by omega)).mono ?_); exact wb.keep hKp.out; rintro e w' ⟨rfl, rfl⟩)
    | (at_builtin; refine wpList_append_lies _ rfl _ _ _ rfl w.heap.size 100 i0 (.int .u32 0) 1 4 Tryz.underlying22 hi0 hz0 hz1 hz2 rfl (by omega) _ k (words L) rfl (HO.out.alloc _) ⟨wr.heap.size, 0, none⟩ 1 1 [_] rfl rfl (World.news_of_block (heap_alloc_new wr _)) (by simp [Value.oneCell']) (by omega) (by unfold maxLen; omega) (by omega) (by simp; omega) (wr.heap.size + 1) (by simp) ?_; intro gx cap w1 hown1 hgrow hat hlt1))
   go_roundw
   case rel =>
    refine ⟨k + 1, (cr + x + y) / 4294967296, L ++ [(cr + x + y) % 4294967296], by omega, by go_num, by congr 1; omega, by omega, by simp [HLk.out], ⟨wds_snoc HI.out.1 (Nat.mod_lt _ (by omega)), ?_⟩, ?_, (hbel.alloc hbel.size _).grown hgrow (by simp; omega) (own_base HO.out)⟩
    ·rw [Sm_snoc HLk.out, Sm, Sm, HX.out, HY.out, Nat.pow_succ]
     exact HD.out
    ·have e : (Value.int .u32 (((x : Int) + y + cr) % 4294967296)) = .int .u32 (((cr + x + y) % 4294967296 : Nat) : Int) := by congr 1; omega
     rw [words_snoc, ← e]; exact hown1
   case measure => simp [intOf]; omega
  ·have hkk : k = n' + 1 := by omega
   have hv : val L = val l + val l' := by
    have h1 := HI.out.2
    have h2 := val_lt wa.1
    have h3 := val_lt wb.1
    rw [Sm_ge L (by rw [HLk.out]; exact Nat.le_refl _), Sm_ge l (by rw [← HL.out]; omega), Sm_ge l' (by rw [← HL'.out]; omega)] at h1
    have h4 : 4294967296 ^ l.length ≤ 4294967296 ^ (k - 1) := Nat.pow_le_pow_right (by omega) (by rw [← HL.out]; omega)
    have h5 : 4294967296 ^ l'.length ≤ 4294967296 ^ (k - 1) := Nat.pow_le_pow_right (by omega) (by rw [← HL'.out]; omega)
    have h6 : 4294967296 ^ k = 4294967296 ^ (k - 1) * 4294967296 := by rw [← Nat.pow_succ]; congr 1; omega
    rcases (show cr = 0 ∨ cr = 1 by omega) with rfl | rfl
    ·omega
    ·omega
   have HV := Lib.hid hv
   obtain ⟨gx, cap, rfl, _, _⟩ := HO.out.form (by omega)
   clear hv hkk
   go_wp2_with fail
   (with_reducible refine (r_trim_c _ _ k cap L ?_ ?_).mono ?_); (exact Wd.of_own HO.out HI.out.1); (omega); rintro e w1 ⟨A1, n1, c1, rfl, h1, hb1⟩
   go_wp2
   go_ret
   rw [HV.out] at h1
   exact ⟨_, _, _, rfl, h1, hbel.trans (hb1.mono hbel.size)⟩
theorem r_plus_2 (w : World) (A n c l) (wa : Wd w A n c l) (hn : n ≤ 1099511627776) (A' n' c' l') (wb : Wd w A' n' c' l') (hn' : n' ≤ 1099511627776) (hle : n' < n) :
  Calls Tryz.prog 103 #[.slice A n c, .slice A' n' c'] w (RetL w (digs (val l + val l'))) := by
 have HL := Lib.hid wa.2.1
 have HL' := Lib.hid wb.2.1
 obtain ⟨i0, hi0, hz0, hz1, hz2⟩ := info_parts info_u32
 go_enter Tryz.func103, Tryz.ntmps103
 go_wp2_with fail
 go_loopw [5, 6, 15] (fun ov cv iv wr => ∃ (k cr : Nat) (L : List Nat), k ≤ n + 1 ∧ iv = .int .i64 (k : Nat) ∧ cv = .int .u64 (cr : Nat) ∧ cr ≤ 1 ∧ L.length = k ∧ PlusI l l' L k cr ∧ wr.ownsRow w.heap.size 100 1 ov k (words L) ∧ Below w.heap.size w wr) (fun _ _ iv _ => n + 1 - (intOf iv).toNat)
 case atStart => exact ⟨0, 0, [], Nat.zero_le _, rfl, rfl, by omega, rfl, ⟨by simp [Wds], by simp [Sm]⟩, ⟨rfl, .inl ⟨rfl, rfl⟩⟩, brefl _⟩
 case round =>
  obtain ⟨k, cr, L, hk, rfl, rfl, hcr, hLk, hI, hown, hbel⟩ := hrel
  have hKp := Lib.hid ((Kp.refl w).below hbel)
  have HI := Lib.hid hI
  have HLk := Lib.hid hLk
  have HO := Lib.hid hown
  clear hI hLk hown
  by_cases hkM : k < n + 1
  ·obtain ⟨x, y, hx, hy⟩ : ∃ x y, wd l k = x ∧ wd l' k = y := ⟨_, _, rfl, rfl⟩
   have hx1 : x < 4294967296 := by rw [← hx]; exact wa.lt k
   have hy1 : y < 4294967296 := by rw [← hy]; exact wb.lt k
   have HX := Lib.hid hx
   have HY := Lib.hid hy
   have hsz := hbel.size
   have HD := Lib.hid (plus_step (x := x) (y := y) HI.out.2)
   clear hx hy
   go_wp2_with (first
    | (go_at_call 137; (with_reducible refine (r_word_x _ A n c l ?_ k x HX.out (by omega)).mono ?_); exact wa.keep hKp.out; rintro e w' ⟨rfl, rfl⟩)
    | (go_at_call 137; (with_reducible refine (r_word_x _ A' n' c' l' ?_ k y HY.out (by omega)).mono ?_); exact wb.keep hKp.out; rintro e w' ⟨rfl, rfl⟩)
    | (at_builtin; refine wpList_append_lies _ rfl _ _ _ rfl w.heap.size 100 i0 (.int .u32 0) 1 4 Tryz.underlying22 hi0 hz0 hz1 hz2 rfl (by omega) _ k (words L) rfl (HO.out.alloc _) ⟨wr.heap.size, 0, none⟩ 1 1 [_] rfl rfl (World.news_of_block (heap_alloc_new wr _)) (by simp [Value.oneCell']) (by omega) (by unfold maxLen; omega) (by omega) (by simp; omega) (wr.heap.size + 1) (by simp) ?_; intro gx cap w1 hown1 hgrow hat hlt1))
   go_roundw
   case rel =>
    refine ⟨k + 1, (cr + x + y) / 4294967296, L ++ [(cr + x + y) % 4294967296], by omega, by go_num, by congr 1; omega, by omega, by simp [HLk.out], ⟨wds_snoc HI.out.1 (Nat.mod_lt _ (by omega)), ?_⟩, ?_, (hbel.alloc hbel.size _).grown hgrow (by simp; omega) (own_base HO.out)⟩
    ·rw [Sm_snoc HLk.out, Sm, Sm, HX.out, HY.out, Nat.pow_succ]
     exact HD.out
    ·have e : (Value.int .u32 (((x : Int) + y + cr) % 4294967296)) = .int .u32 (((cr + x + y) % 4294967296 : Nat) : Int) := by congr 1; omega
     rw [words_snoc, ← e]; exact hown1
   case measure => simp [intOf]; omega
  ·have hkk : k = n + 1 := by omega
   have hv : val L = val l + val l' := by
    have h1 := HI.out.2
    have h2 := val_lt wa.1
    have h3 := val_lt wb.1
    rw [Sm_ge L (by rw [HLk.out]; exact Nat.le_refl _), Sm_ge l (by rw [← HL.out]; omega), Sm_ge l' (by rw [← HL'.out]; omega)] at h1
    have h4 : 4294967296 ^ l.length ≤ 4294967296 ^ (k - 1) := Nat.pow_le_pow_right (by omega) (by rw [← HL.out]; omega)
    have h5 : 4294967296 ^ l'.length ≤ 4294967296 ^ (k - 1) := Nat.pow_le_pow_right (by omega) (by rw [← HL'.out]; omega)
    have h6 : 4294967296 ^ k = 4294967296 ^ (k - 1) * 4294967296 := by rw [← Nat.pow_succ]; congr 1; omega
    rcases (show cr = 0 ∨ cr = 1 by omega) with rfl | rfl
    ·omega
    ·omega
   have HV := Lib.hid hv
   obtain ⟨gx, cap, rfl, _, _⟩ := HO.out.form (by omega)
   clear hv hkk
   go_wp2_with fail
   (with_reducible refine (r_trim_c _ _ k cap L ?_ ?_).mono ?_); (exact Wd.of_own HO.out HI.out.1); (omega); rintro e w1 ⟨A1, n1, c1, rfl, h1, hb1⟩
   go_wp2
   go_ret
   rw [HV.out] at h1
   exact ⟨_, _, _, rfl, h1, hbel.trans (hb1.mono hbel.size)⟩
theorem r_plus_c (w : World) (A n c l) (wa : Wd w A n c l) (hn : n ≤ 1099511627776) (A' n' c' l') (wb : Wd w A' n' c' l') (hn' : n' ≤ 1099511627776) :
    Calls Tryz.prog 103 #[.slice A n c, .slice A' n' c'] w (RetL w (digs (val l + val l'))) := by
  rcases Nat.lt_or_ge n' n with h | h
  · exact r_plus_2 w A n c l wa hn A' n' c' l' wb hn' h
  · exact r_plus_1 w A n c l wa hn A' n' c' l' wb hn' h
end Go.Proofs.YtianjkiakkclgaaGreatDoor

/- Walks: the reference's differences of lists. -/
namespace Go.Proofs.YtianjkiakkclgaaGreatDoor
open Go Go.RowKit Bn
attribute [local go_sem ↓] Go.wp_at_zero Go.wp_at_succ

theorem own_wd {w : World} {base k : Nat} {v : Value} {L : List Nat} (h : w.ownsRow base 100 1 v k (words L)) (hL : L.length = k) (hw : Wds L) : ∃ B cap, v = .slice B k cap ∧ Wd w B k cap L := by
  rcases Nat.eq_zero_or_pos k with h0 | h0
  · have : L = [] := List.eq_nil_of_length_eq_zero (by rw [hL, h0])
    subst this h0
    rcases h.2 with ⟨e, _⟩ | ⟨gx, cap, cur, e, _⟩
    · exact ⟨none, 0, e, Wd.nil_ _⟩
    · exact ⟨_, cap, e, Wd.of_own (e ▸ h) (by simp [Wds])⟩
  · obtain ⟨gx, cap, e, _, _⟩ := h.form h0
    exact ⟨_, cap, e, Wd.of_own (e ▸ h) hw⟩
theorem r_minus_c (w : World) (A n c l) (wa : Wd w A n c l) (hn : n ≤ 1099511627776) (A' n' c' l') (wb : Wd w A' n' c' l') (hn' : n' ≤ n) (hv : val l' ≤ val l) :
  Calls Tryz.prog 105 #[.slice A n c, .slice A' n' c'] w (RetL w (digs (val l - val l'))) := by
 have HL := Lib.hid wa.2.1
 have HL' := Lib.hid wb.2.1
 have HV := Lib.hid hv
 obtain ⟨i0, hi0, hz0, hz1, hz2⟩ := info_parts info_u32
 clear hv
 go_enter Tryz.func105, Tryz.ntmps105
 go_wp2_with fail
 go_loopw [5, 6, 11] (fun ov cv iv wr => ∃ (k br : Nat) (L : List Nat), k ≤ n ∧ iv = .int .i64 (k : Nat) ∧ cv = .int .u64 (br : Nat) ∧ br ≤ 1 ∧ L.length = k ∧ LessI l l' L k br ∧ wr.ownsRow w.heap.size 100 1 ov k (words L) ∧ Below w.heap.size w wr) (fun _ _ iv _ => n - (intOf iv).toNat)
 case atStart => exact ⟨0, 0, [], Nat.zero_le _, rfl, rfl, by omega, rfl, ⟨by simp [Wds], by simp [Sm]⟩, ⟨rfl, .inl ⟨rfl, rfl⟩⟩, brefl _⟩
 case round =>
  obtain ⟨k, br, L, hk, rfl, rfl, hbr, hLk, hI, hown, hbel⟩ := hrel
  have hKp := Lib.hid ((Kp.refl w).below hbel)
  have HI := Lib.hid hI
  have HLk := Lib.hid hLk
  have HO := Lib.hid hown
  clear hI hLk hown
  by_cases hkM : k < n
  ·obtain ⟨x, y, hx, hy⟩ : ∃ x y, wd l k = x ∧ wd l' k = y := ⟨_, _, rfl, rfl⟩
   have hx1 : x < 4294967296 := by rw [← hx]; exact wa.lt k
   have hy1 : y < 4294967296 := by rw [← hy]; exact wb.lt k
   have HX := Lib.hid hx
   have HY := Lib.hid hy
   have hsz := hbel.size
   clear hx hy
   go_wp2_with (first
    | (go_at_call 137; (with_reducible refine (r_word_x _ A n c l ?_ k x HX.out (by omega)).mono ?_); exact wa.keep hKp.out; rintro e w' ⟨rfl, rfl⟩)
    | (go_at_call 137; (with_reducible refine (r_word_x _ A' n' c' l' ?_ k y HY.out (by omega)).mono ?_); exact wb.keep hKp.out; rintro e w' ⟨rfl, rfl⟩)
    | (at_builtin; refine wpList_append_lies _ rfl _ _ _ rfl w.heap.size 100 i0 (.int .u32 0) 1 4 Tryz.underlying22 hi0 hz0 hz1 hz2 rfl (by omega) _ k (words L) rfl (HO.out.alloc _) ⟨wr.heap.size, 0, none⟩ 1 1 [_] rfl rfl (World.news_of_block (heap_alloc_new wr _)) (by simp [Value.oneCell']) (by omega) (by unfold maxLen; omega) (by omega) (by simp; omega) (wr.heap.size + 1) (by simp) ?_; intro gx cap w1 hown1 hgrow hat hlt1))
   go_roundw
   case rel =>
    refine ⟨k + 1, 1 - (4294967296 + x - y - br) / 4294967296, L ++ [(4294967296 + x - y - br) % 4294967296], by omega, by go_num, by congr 1; omega, by omega, by simp [HLk.out], ⟨wds_snoc HI.out.1 (Nat.mod_lt _ (by omega)), ?_⟩, ?_, (hbel.alloc hbel.size _).grown hgrow (by simp; omega) (own_base HO.out)⟩
    ·rw [Sm_snoc HLk.out, Sm, Sm, HX.out, HY.out, Nat.pow_succ]
     exact less_step HI.out.2 (by omega)
    ·have e : (Value.int .u32 ((4294967296 + (x : Int) - y - br) % 4294967296)) = .int .u32 (((4294967296 + x - y - br) % 4294967296 : Nat) : Int) := by congr 1; omega
     rw [words_snoc, ← e]; exact hown1
   case measure => simp [intOf]; omega
  ·have hkk : k = n := by omega
   subst hkk
   have hv2 : val L = val l - val l' := by
    have h1 := HI.out.2
    have h2 := val_lt HI.out.1
    have h3 := HV.out
    rw [HLk.out] at h2
    rw [Sm_ge L (by rw [HLk.out]; exact Nat.le_refl _), Sm_ge l (by rw [← HL.out]; omega), Sm_ge l' (by rw [← HL'.out]; omega)] at h1
    rcases (show br = 0 ∨ br = 1 by omega) with rfl | rfl
    ·omega
    ·omega
   have HV2 := Lib.hid hv2
   clear hv2
   have hf := own_wd HO.out HLk.out HI.out.1
   obtain ⟨B, cap, rfl, hw⟩ := hf
   have HW := Lib.hid hw
   clear hw
   go_wp2_with fail
   (with_reducible refine (r_trim_c _ _ k cap L ?_ ?_).mono ?_); (exact HW.out); (omega); rintro e w1 ⟨A1, n1, c1, rfl, h1, hb1⟩
   go_wp2
   go_ret
   rw [HV2.out] at h1
   exact ⟨_, _, _, rfl, h1, hbel.trans (hb1.mono hbel.size)⟩
end Go.Proofs.YtianjkiakkclgaaGreatDoor

/- Walks: the reference's Neg, Add, Of. -/
namespace Go.Proofs.YtianjkiakkclgaaGreatDoor
open Go Go.RowKit Bn
attribute [local go_sem ↓] Go.wp_at_zero Go.wp_at_succ
theorem r_form_e (w : World) (b : Bool) (A : Option Addr) (n c : Nat) (l : List Nat) (z : Int) (h : Wd w A n c l) (hn : n ≤ 1099511627776) (hz : sgn b (val l) = z) :
    Calls Tryz.prog 100 #[.bool b, .slice A n c] w (RetW w (wh z)) := by subst hz; exact r_form_c w b A n c l h hn
theorem r_compare_x (w : World) (A n c l) (wa : Wd w A n c l) (hn : n ≤ 1099511627776) (A' n' c' l') (wb : Wd w A' n' c' l') (hn' : n' ≤ 1099511627776) (_ : Canon l) (_ : Canon l') :
    Calls Tryz.prog 104 #[.slice A n c, .slice A' n' c'] w (RetV w (.int .i64 (cmpN (val l) (val l')))) := r_compare_c w A n c l wa hn A' n' c' l' wb hn'
theorem r_neg_C (w : World) (b : Bool) (A n c l) (wa : Wd w A n c l) (hn : n ≤ 1099511627000) :
    Calls Tryz.prog 97 #[.agg #[.bool b, .slice A n c]] w (RetW w (wh (-WD.z ⟨b, l⟩))) := by
  have HL := Lib.hid wa.2.1
  go_enter Tryz.func97, Tryz.ntmps97
  go_wp2_with fail
  have b0 : Below w.heap.size w ((w.alloc (.cells #[.bool b, .slice A n c] 77)).alloc (.cells #[.bool false, .slice none 0 0] 77)) := (((Below.refl _ _).alloc (Nat.le_refl _) _).alloc (by simp) _)
  generalize hW0 : ((w.alloc (.cells #[.bool b, .slice A n c] 77)).alloc (.cells #[.bool false, .slice none 0 0] 77)) = W0 at b0 ⊢
  have c00 : W0.cell? ⟨w.heap.size, 0, none⟩ = some (.bool b) := by subst hW0; simp [go_sem]
  have f00 : W0.frozen? ⟨w.heap.size, 0, none⟩ = false := by subst hW0; simp [go_sem]
  have c01 : W0.cell? ⟨w.heap.size, 1, none⟩ = some (.slice A n c) := by subst hW0; simp [go_sem]
  have f01 : W0.frozen? ⟨w.heap.size, 1, none⟩ = false := by subst hW0; simp [go_sem]
  have c10 : W0.cell? ⟨w.heap.size + 1, 0, none⟩ = some (.bool false) := by subst hW0; simp [go_sem]
  have f10 : W0.frozen? ⟨w.heap.size + 1, 0, none⟩ = false := by subst hW0; simp [go_sem]
  have c11 : W0.cell? ⟨w.heap.size + 1, 1, none⟩ = some (.slice none 0 0) := by subst hW0; simp [go_sem]
  have f11 : W0.frozen? ⟨w.heap.size + 1, 1, none⟩ = false := by subst hW0; simp [go_sem]
  have x0 : Box W0 w.heap.size 77 := by subst hW0; exact (boxAt _ _ _ (by simp)).alloc _
  have x1 : Box W0 (w.heap.size + 1) 77 := by subst hW0; exact boxAt _ _ _ (by simp)
  have hm0 : Made (w.heap.size + 1) (w.heap.size + 1 + 1) 2 W0 := by subst hW0; exact made1 (by simp)
  have hs0 : w.heap.size + 1 + 1 ≤ W0.heap.size := by subst hW0; simp
  clear hW0
  have wa := wa.belw b0
  have r0 : Below W0.heap.size W0 W0 := brefl _
  have hRB : w.heap.size + 1 ≤ w.heap.size + 1 + 1 := by omega
  go_region_held3 (fun w' => Sees (w.heap.size + 1) W0 w') (first | exact Sees.of (Nat.le_trans hRB hs0) (by assumption) | exact Sees.of (Nat.le_trans hRB hs0) (below_drewN (by assumption) _) | exact (Sees.set (Sees.of (Nat.le_trans hRB hs0) (by assumption)) (by simp)) | exact (Sees.set (Sees.set (Sees.of (Nat.le_trans hRB hs0) (by assumption)) (by simp)) (by simp)))
    (first
      | (go_at_call 102; (with_reducible refine (r_neg_c _ b A n c l ?_ ?_).mono ?_); (exact wa); (omega); rintro e w1 ⟨rfl, hb1⟩; replace hb1 := bnext (below_drewN (brefl _) 1) hb1; have r1 := bnext r0 hb1; replace wa := wa.belw hb1)
      | (go_at_call 101; (with_reducible refine (r_mag_c _ b A n c l ?_ ?_).mono ?_); (exact wa); (omega); rintro e w2 ⟨A1, n1, c1, rfl, h1, hb2⟩; have r2 := bnext r1 hb2; replace wa := wa.belw hb2)
      | (go_at_call 100; (with_reducible refine (r_form_e _ (!WD.s ⟨b, l⟩) A1 n1 c1 (WD.m ⟨b, l⟩) (-WD.z ⟨b, l⟩) ?_ ?_ ?_).mono ?_); (exact h1); (exact Nat.le_trans (h1.m_len (by rw [← HL.out]; exact hn)) (by decide)); (exact (z_neg _).symm); rintro e w3 ⟨A2, n2, c2, rfl, h2, hb3⟩; have r3 := bnext r2 hb3; replace wa := wa.belw hb3; replace h1 := h1.belw hb3; obtain ⟨⟨sc, sf⟩, sr, sz⟩ := Seen.of (by omega) hs0 hm0 r3))
  clear hRB
  go_wp2_with fail
  refine bodyPost_ret (v := .agg #[.bool _, .slice A2 n2 c2]) (by simp [results, Tryz.results97, go_sem, sr]; rfl) rfl ?_
  have x := x1.below r3
  refine retW ?_ ?_ ?_
  · rfl
  · exact h2.keep (kp2 x (by decide) _ _ _ _)
  · exact ((b0.trans (r3.mono b0.size)).setCell (by dsimp only; omega) _).setCell (by dsimp only; omega) _
theorem r_add_c (w : World) (b : Bool) (A n c l) (wa : Wd w A n c l) (hn : n ≤ 1099511627000) (b' : Bool) (A' n' c' l') (wb : Wd w A' n' c' l') (hn' : n' ≤ 1099511627000) :
    Calls Tryz.prog 69 #[.agg #[.bool b, .slice A n c], .agg #[.bool b', .slice A' n' c']] w (RetW w (wh (WD.z ⟨b, l⟩ + WD.z ⟨b', l'⟩))) := by
  have HL := Lib.hid wa.2.1
  have HL' := Lib.hid wb.2.1
  go_enter Tryz.func69, Tryz.ntmps69
  go_wp2_with fail
  have b0 : Below w.heap.size w (((w.alloc (.cells #[.bool b, .slice A n c] 77)).alloc (.cells #[.bool b', .slice A' n' c'] 77)).alloc (.cells #[.bool false, .slice none 0 0] 77)) := ((((Below.refl _ _).alloc (Nat.le_refl _) _).alloc (by simp) _).alloc (by simp; omega) _)
  generalize hW0 : (((w.alloc (.cells #[.bool b, .slice A n c] 77)).alloc (.cells #[.bool b', .slice A' n' c'] 77)).alloc (.cells #[.bool false, .slice none 0 0] 77)) = W0 at b0 ⊢
  have c00 : W0.cell? ⟨w.heap.size, 0, none⟩ = some (.bool b) := by subst hW0; simp [go_sem]
  have f00 : W0.frozen? ⟨w.heap.size, 0, none⟩ = false := by subst hW0; simp [go_sem]
  have c01 : W0.cell? ⟨w.heap.size, 1, none⟩ = some (.slice A n c) := by subst hW0; simp [go_sem]
  have f01 : W0.frozen? ⟨w.heap.size, 1, none⟩ = false := by subst hW0; simp [go_sem]
  have c10 : W0.cell? ⟨w.heap.size + 1, 0, none⟩ = some (.bool b') := by subst hW0; simp [go_sem]
  have f10 : W0.frozen? ⟨w.heap.size + 1, 0, none⟩ = false := by subst hW0; simp [go_sem]
  have c11 : W0.cell? ⟨w.heap.size + 1, 1, none⟩ = some (.slice A' n' c') := by subst hW0; simp [go_sem]
  have f11 : W0.frozen? ⟨w.heap.size + 1, 1, none⟩ = false := by subst hW0; simp [go_sem]
  have c20 : W0.cell? ⟨w.heap.size + 1 + 1, 0, none⟩ = some (.bool false) := by subst hW0; simp [go_sem]
  have f20 : W0.frozen? ⟨w.heap.size + 1 + 1, 0, none⟩ = false := by subst hW0; simp [go_sem]
  have c21 : W0.cell? ⟨w.heap.size + 1 + 1, 1, none⟩ = some (.slice none 0 0) := by subst hW0; simp [go_sem]
  have f21 : W0.frozen? ⟨w.heap.size + 1 + 1, 1, none⟩ = false := by subst hW0; simp [go_sem]
  have x0 : Box W0 w.heap.size 77 := by subst hW0; exact ((boxAt _ _ _ (by simp)).alloc _).alloc _
  have x1 : Box W0 (w.heap.size + 1) 77 := by subst hW0; exact (boxAt _ _ _ (by simp)).alloc _
  have x2 : Box W0 (w.heap.size + 1 + 1) 77 := by subst hW0; exact boxAt _ _ _ (by simp)
  have hm0 : Made (w.heap.size + 1 + 1) (w.heap.size + 1 + 1 + 1) 2 W0 := by subst hW0; exact made1 (by simp)
  have hs0 : w.heap.size + 1 + 1 + 1 ≤ W0.heap.size := by subst hW0; simp
  clear hW0
  have wa := wa.belw b0
  have wb := wb.belw b0
  have r0 : Below W0.heap.size W0 W0 := brefl _
  go_region_held3 (fun w' => Seen (w.heap.size + 1 + 1) (w.heap.size + 1 + 1 + 1) 2 W0 w') (first | exact Seen.of (by omega) hs0 hm0 (by assumption) | exact Seen.of (by omega) hs0 hm0 (below_drewN (by assumption) _))
    (first
      | (go_at_call 101; (with_reducible refine (r_mag_c _ b A n c l ?_ ?_).mono ?_); (exact wa); (omega); rintro e w1 ⟨A1, n1, c1, rfl, h1, hb1⟩; replace hb1 := bnext (below_drewN (brefl _) 1) hb1; have r1 := bnext r0 hb1; replace wa := wa.belw hb1; replace wb := wb.belw hb1)
      | (go_at_call 101; (with_reducible refine (r_mag_c _ b' A' n' c' l' ?_ ?_).mono ?_); (exact wb); (omega); rintro e w2 ⟨A2, n2, c2, rfl, h2, hb2⟩; have r2 := bnext r1 hb2; replace wa := wa.belw hb2; replace wb := wb.belw hb2; replace h1 := h1.belw hb2))
  obtain ⟨⟨sc, sf⟩, sr, sz⟩ := Seen.of (by omega) hs0 hm0 r2
  clear sc sf sr sz
  go_wp2_with fail
  go_region_held3 (fun w' => Seen (w.heap.size + 1 + 1) (w.heap.size + 1 + 1 + 1) 2 W0 w') (first | exact Seen.of (by omega) hs0 hm0 (by assumption) | exact Seen.of (by omega) hs0 hm0 (below_drewN (by assumption) _))
    (first
      | (go_at_call 102; (with_reducible refine (r_neg_c _ b A n c l ?_ ?_).mono ?_); (exact wa); (omega); rintro e w3 ⟨rfl, hb3⟩; replace hb3 := bnext (below_drewN (brefl _) 1) hb3; have r3 := bnext r2 hb3; replace wa := wa.belw hb3; replace wb := wb.belw hb3; replace h1 := h1.belw hb3; replace h2 := h2.belw hb3)
      | (go_at_call 102; (with_reducible refine (r_neg_c _ b' A' n' c' l' ?_ ?_).mono ?_); (exact wb); (omega); rintro e w4 ⟨rfl, hb4⟩; have r4 := bnext r3 hb4; replace wa := wa.belw hb4; replace wb := wb.belw hb4; replace h1 := h1.belw hb4; replace h2 := h2.belw hb4))
  obtain ⟨⟨sc, sf⟩, sr, sz⟩ := Seen.of (by omega) hs0 hm0 r4
  have hcm1 : Canon (WD.m ⟨b, l⟩) := WD.canon_m wa.1
  have hcm2 : Canon (WD.m ⟨b', l'⟩) := WD.canon_m wb.1
  have hn1 : n1 ≤ 1099511627000 := h1.m_len (by rw [← HL.out]; exact hn)
  have hn2 : n2 ≤ 1099511627000 := h2.m_len (by rw [← HL'.out]; exact hn')
  by_cases hs : WD.s ⟨b, l⟩ = WD.s ⟨b', l'⟩
  · have hs' : (WD.s ⟨b, l⟩ == WD.s ⟨b', l'⟩) = true := by simp [hs]
    have HZ := Lib.hid (z_same hs)
    clear hs
    rw [hs']
    clear hs'
    go_wp2_with (first
      | (go_at_call 102; (with_reducible refine (r_neg_c _ b A n c l ?_ ?_).mono ?_); (exact wa); (omega); rintro e w5 ⟨rfl, hb5⟩; have r5 := bnext r4 hb5; replace wa := wa.belw hb5; replace wb := wb.belw hb5; replace h1 := h1.belw hb5; replace h2 := h2.belw hb5; (try clear sc sf sr sz); obtain ⟨⟨sc, sf⟩, sr, sz⟩ := Seen.of (by omega) hs0 hm0 r5)
      | (go_at_call 103; (with_reducible refine (r_plus_c _ A1 n1 c1 (WD.m ⟨b, l⟩) ?_ ?_ A2 n2 c2 (WD.m ⟨b', l'⟩) ?_ ?_).mono ?_); (exact h1); (omega); (exact h2); (omega); rintro e w6 ⟨A3, n3, c3, rfl, h3, hb6⟩; have r6 := bnext r5 hb6; replace wa := wa.belw hb6; replace wb := wb.belw hb6; replace h1 := h1.belw hb6; replace h2 := h2.belw hb6; (try clear sc sf sr sz); obtain ⟨⟨sc, sf⟩, sr, sz⟩ := Seen.of (by omega) hs0 hm0 r6)
      | (go_at_call 100; (with_reducible refine (r_form_c _ (WD.s ⟨b, l⟩) A3 n3 c3 (digs (val (WD.m ⟨b, l⟩) + val (WD.m ⟨b', l'⟩))) ?_ ?_).mono ?_); (exact h3); (rw [h3.2.1]; exact plus_len h1 h2 hn1 hn2 (by decide)); rintro e w7 ⟨A4, n4, c4, rfl, h4, hb7⟩; have r7 := bnext r6 hb7; replace wa := wa.belw hb7; replace wb := wb.belw hb7; replace h1 := h1.belw hb7; replace h2 := h2.belw hb7; replace h3 := h3.belw hb7; (try clear sc sf sr sz); obtain ⟨⟨sc, sf⟩, sr, sz⟩ := Seen.of (by omega) hs0 hm0 r7))
    rw [val_digs, ← HZ.out] at h4
    refine bodyPost_ret (v := .agg #[.bool _, .slice A4 n4 c4]) (by simp [results, Tryz.results69, go_sem, sr]; rfl) rfl ?_
    have x := x2.below r7
    refine retW ?_ ?_ ?_
    · rw [HZ.out, val_digs]
    · exact h4.keep (kp2 x (by decide) _ _ _ _)
    · exact ((b0.trans (r7.mono b0.size)).setCell (by dsimp only; omega) _).setCell (by dsimp only; omega) _
  · have hs' : (WD.s ⟨b, l⟩ == WD.s ⟨b', l'⟩) = false := by simp [hs]
    rw [hs']
    clear hs'
    by_cases hv : val (WD.m ⟨b', l'⟩) ≤ val (WD.m ⟨b, l⟩)
    · have hd : decide ((0 : Int) ≤ cmpN (val (WD.m ⟨b, l⟩)) (val (WD.m ⟨b', l'⟩))) = true := by simp [cmpN_le, hv]
      have HZ := Lib.hid (z_more (a := ⟨b, l⟩) (b := ⟨b', l'⟩) hs hv)
      have HV := Lib.hid hv
      clear hs hv
      have hlen : n2 ≤ n1 := len_le h2 h1 hcm2 hcm1 (HV.out)
      go_wp2_with (first
        | (go_at_call 104; (with_reducible refine (r_compare_x _ A1 n1 c1 (WD.m ⟨b, l⟩) ?_ ?_ A2 n2 c2 (WD.m ⟨b', l'⟩) ?_ ?_ hcm1 hcm2).mono ?_); (exact h1); (omega); (exact h2); (omega); rintro e w5 ⟨rfl, hb5⟩; have r5 := bnext r4 hb5; replace wa := wa.belw hb5; replace wb := wb.belw hb5; replace h1 := h1.belw hb5; replace h2 := h2.belw hb5; (try clear sc sf sr sz); obtain ⟨⟨sc, sf⟩, sr, sz⟩ := Seen.of (by omega) hs0 hm0 r5)
        | (go_at_call 102; (with_reducible refine (r_neg_c _ b A n c l ?_ ?_).mono ?_); (exact wa); (omega); rintro e w6 ⟨rfl, hb6⟩; have r6 := bnext r5 hb6; replace wa := wa.belw hb6; replace wb := wb.belw hb6; replace h1 := h1.belw hb6; replace h2 := h2.belw hb6; (try clear sc sf sr sz); obtain ⟨⟨sc, sf⟩, sr, sz⟩ := Seen.of (by omega) hs0 hm0 r6)
        | (go_at_call 105; (with_reducible refine (r_minus_c _ A1 n1 c1 (WD.m ⟨b, l⟩) ?_ ?_ A2 n2 c2 (WD.m ⟨b', l'⟩) ?_ ?_ ?_).mono ?_); (exact h1); (omega); (exact h2); (exact hlen); (exact HV.out); rintro e w7 ⟨A3, n3, c3, rfl, h3, hb7⟩; have r7 := bnext r6 hb7; replace wa := wa.belw hb7; replace wb := wb.belw hb7; replace h1 := h1.belw hb7; replace h2 := h2.belw hb7; (try clear sc sf sr sz); obtain ⟨⟨sc, sf⟩, sr, sz⟩ := Seen.of (by omega) hs0 hm0 r7)
        | (go_at_call 100; (with_reducible refine (r_form_c _ (WD.s ⟨b, l⟩) A3 n3 c3 (digs (val (WD.m ⟨b, l⟩) - val (WD.m ⟨b', l'⟩))) ?_ ?_).mono ?_); (exact h3); (rw [h3.2.1]; exact dlen (Nat.lt_of_le_of_lt (Nat.sub_le _ _) (h1.vlt hn1)) (by decide)); rintro e w8 ⟨A4, n4, c4, rfl, h4, hb8⟩; have r8 := bnext r7 hb8; replace wa := wa.belw hb8; replace wb := wb.belw hb8; replace h1 := h1.belw hb8; replace h2 := h2.belw hb8; replace h3 := h3.belw hb8; (try clear sc sf sr sz); obtain ⟨⟨sc, sf⟩, sr, sz⟩ := Seen.of (by omega) hs0 hm0 r8))
      rw [val_digs, ← HZ.out] at h4
      refine bodyPost_ret (v := .agg #[.bool _, .slice A4 n4 c4]) (by simp [results, Tryz.results69, go_sem, sr]; rfl) rfl ?_
      have x := x2.below r8
      refine retW ?_ ?_ ?_
      · rw [HZ.out, val_digs]
      · exact h4.keep (kp2 x (by decide) _ _ _ _)
      · exact ((b0.trans (r8.mono b0.size)).setCell (by dsimp only; omega) _).setCell (by dsimp only; omega) _
    · have hd : decide ((0 : Int) ≤ cmpN (val (WD.m ⟨b, l⟩)) (val (WD.m ⟨b', l'⟩))) = false := by simp [cmpN_le]; omega
      have HZ := Lib.hid (z_less (a := ⟨b, l⟩) (b := ⟨b', l'⟩) hs (by omega))
      have HV := Lib.hid hv
      clear hs hv
      have hlen : n1 ≤ n2 := len_le h1 h2 hcm1 hcm2 (Nat.le_of_not_le HV.out)
      go_wp2_with (first
        | (go_at_call 104; (with_reducible refine (r_compare_x _ A1 n1 c1 (WD.m ⟨b, l⟩) ?_ ?_ A2 n2 c2 (WD.m ⟨b', l'⟩) ?_ ?_ hcm1 hcm2).mono ?_); (exact h1); (omega); (exact h2); (omega); rintro e w5 ⟨rfl, hb5⟩; have r5 := bnext r4 hb5; replace wa := wa.belw hb5; replace wb := wb.belw hb5; replace h1 := h1.belw hb5; replace h2 := h2.belw hb5; (try clear sc sf sr sz); obtain ⟨⟨sc, sf⟩, sr, sz⟩ := Seen.of (by omega) hs0 hm0 r5)
        | (go_at_call 102; (with_reducible refine (r_neg_c _ b' A' n' c' l' ?_ ?_).mono ?_); (exact wb); (omega); rintro e w6 ⟨rfl, hb6⟩; have r6 := bnext r5 hb6; replace wa := wa.belw hb6; replace wb := wb.belw hb6; replace h1 := h1.belw hb6; replace h2 := h2.belw hb6; (try clear sc sf sr sz); obtain ⟨⟨sc, sf⟩, sr, sz⟩ := Seen.of (by omega) hs0 hm0 r6)
        | (go_at_call 105; (with_reducible refine (r_minus_c _ A2 n2 c2 (WD.m ⟨b', l'⟩) ?_ ?_ A1 n1 c1 (WD.m ⟨b, l⟩) ?_ ?_ ?_).mono ?_); (exact h2); (omega); (exact h1); (exact hlen); (exact Nat.le_of_not_le HV.out); rintro e w7 ⟨A3, n3, c3, rfl, h3, hb7⟩; have r7 := bnext r6 hb7; replace wa := wa.belw hb7; replace wb := wb.belw hb7; replace h1 := h1.belw hb7; replace h2 := h2.belw hb7; (try clear sc sf sr sz); obtain ⟨⟨sc, sf⟩, sr, sz⟩ := Seen.of (by omega) hs0 hm0 r7)
        | (go_at_call 100; (with_reducible refine (r_form_c _ (WD.s ⟨b', l'⟩) A3 n3 c3 (digs (val (WD.m ⟨b', l'⟩) - val (WD.m ⟨b, l⟩))) ?_ ?_).mono ?_); (exact h3); (rw [h3.2.1]; exact dlen (Nat.lt_of_le_of_lt (Nat.sub_le _ _) (h2.vlt hn2)) (by decide)); rintro e w8 ⟨A4, n4, c4, rfl, h4, hb8⟩; have r8 := bnext r7 hb8; replace wa := wa.belw hb8; replace wb := wb.belw hb8; replace h1 := h1.belw hb8; replace h2 := h2.belw hb8; replace h3 := h3.belw hb8; (try clear sc sf sr sz); obtain ⟨⟨sc, sf⟩, sr, sz⟩ := Seen.of (by omega) hs0 hm0 r8))
      rw [val_digs, ← HZ.out] at h4
      refine bodyPost_ret (v := .agg #[.bool _, .slice A4 n4 c4]) (by simp [results, Tryz.results69, go_sem, sr]; rfl) rfl ?_
      have x := x2.below r8
      refine retW ?_ ?_ ?_
      · rw [HZ.out, val_digs]
      · exact h4.keep (kp2 x (by decide) _ _ _ _)
      · exact ((b0.trans (r8.mono b0.size)).setCell (by dsimp only; omega) _).setCell (by dsimp only; omega) _
theorem r_of_c (w : World) (i : Int) (h0 : -9223372036854775808 ≤ i) (h1 : i < 9223372036854775808) :
  Calls Tryz.prog 65 #[.int .i64 i] w (RetW w (wh i)) := by
 obtain ⟨v, hv⟩ : ∃ v : Nat, v = i.natAbs := ⟨_, rfl⟩
 have hv2 : v < 18446744073709551616 := by omega
 have hval : val [v % 4294967296, v / 4294967296] = v := by simp [val]; omega
 have HV := Lib.hid hval
 by_cases hneg : i < 0
 ·have e1 : IntKind.u64.wrap i = i + 18446744073709551616 := by unfold IntKind.wrap; simp [IntKind.bits, IntKind.signed]; omega
  have e2 : IntKind.u64.wrap (-(i + 18446744073709551616)) = (v : Int) := by unfold IntKind.wrap; simp [IntKind.bits, IntKind.signed]; omega
  have e3 : decide (i < 0) = true := by simp; omega
  have e4 : IntKind.u32.wrap (v : Int) = ((v % 4294967296 : Nat) : Int) := by unfold IntKind.wrap; simp [IntKind.bits, IntKind.signed]
  have e5 : IntKind.u32.wrap ((v : Int) / 4294967296) = ((v / 4294967296 : Nat) : Int) := by unfold IntKind.wrap; simp [IntKind.bits, IntKind.signed]; omega
  have HZ := Lib.hid (show sgn true v = i by simp [sgn]; omega)
  have HV2 := Lib.hid hv2
  clear hv hval hv2 hneg h0 h1
  go_enter Tryz.func65, Tryz.ntmps65
  go_wp2_with (go_at_call 100; (with_reducible refine (r_form_e _ true (some ⟨w.heap.size + 1, 0, none⟩) 2 2 [v % 4294967296, v / 4294967296] i ?_ ?_ ?_).mono ?_); (exact two_word (w.alloc _) _ (by simp) _ _ v (by simp) (by simp) HV2.out); (omega); (rw [HV.out]; exact HZ.out); rintro e w1 ⟨A1, n1, c1, rfl, h1, hb⟩; obtain ⟨hc, hf⟩ := bcell hb)
  have hc0 : w1.cell? ⟨w.heap.size, 0, none⟩ = some (.bool false) := (hc w.heap.size 0 (by simp; omega)).trans (by simp [go_sem])
  have hc1 : w1.cell? ⟨w.heap.size, 1, none⟩ = some (.slice none 0 0) := (hc w.heap.size 1 (by simp; omega)).trans (by simp [go_sem])
  refine bodyPost_ret (v := .agg #[.bool _, .slice A1 n1 c1]) (by simp [results, Tryz.results65, go_sem, hc0, hc1]; rfl) rfl ?_
  have x := ((boxAt w #[.bool false, .slice none 0 0] 77 rfl).alloc _).below hb
  refine retW ?_ ?_ ?_
  ·rfl
  ·exact h1.keep (kp2 x (by decide) _ _ _ _)
  ·exact ((((((Below.refl _ _).alloc (Nat.le_refl _) _).alloc (by simp) _).trans (hb.mono (by simp; omega)))).setCell (by dsimp only; omega) _).setCell (by dsimp only; omega) _
 ·have e1 : IntKind.u64.wrap i = (v : Int) := by unfold IntKind.wrap; simp [IntKind.bits, IntKind.signed]; omega
  have e3 : decide (i < 0) = false := by simp; omega
  have e4 : IntKind.u32.wrap (v : Int) = ((v % 4294967296 : Nat) : Int) := by unfold IntKind.wrap; simp [IntKind.bits, IntKind.signed]
  have e5 : IntKind.u32.wrap ((v : Int) / 4294967296) = ((v / 4294967296 : Nat) : Int) := by unfold IntKind.wrap; simp [IntKind.bits, IntKind.signed]; omega
  have HZ := Lib.hid (show sgn false v = i by simp [sgn]; omega)
  have HV2 := Lib.hid hv2
  clear hv hval hv2 hneg h0 h1
  go_enter Tryz.func65, Tryz.ntmps65
  go_wp2_with (go_at_call 100; (with_reducible refine (r_form_e _ false (some ⟨w.heap.size + 1, 0, none⟩) 2 2 [v % 4294967296, v / 4294967296] i ?_ ?_ ?_).mono ?_); (exact two_word (w.alloc _) _ (by simp) _ _ v (by simp) (by simp) HV2.out); (omega); (rw [HV.out]; exact HZ.out); rintro e w1 ⟨A1, n1, c1, rfl, h1, hb⟩; obtain ⟨hc, hf⟩ := bcell hb)
  have hc0 : w1.cell? ⟨w.heap.size, 0, none⟩ = some (.bool false) := (hc w.heap.size 0 (by simp; omega)).trans (by simp [go_sem])
  have hc1 : w1.cell? ⟨w.heap.size, 1, none⟩ = some (.slice none 0 0) := (hc w.heap.size 1 (by simp; omega)).trans (by simp [go_sem])
  refine bodyPost_ret (v := .agg #[.bool _, .slice A1 n1 c1]) (by simp [results, Tryz.results65, go_sem, hc0, hc1]; rfl) rfl ?_
  have x := ((boxAt w #[.bool false, .slice none 0 0] 77 rfl).alloc _).below hb
  refine retW ?_ ?_ ?_
  ·rfl
  ·exact h1.keep (kp2 x (by decide) _ _ _ _)
  ·exact ((((((Below.refl _ _).alloc (Nat.le_refl _) _).alloc (by simp) _).trans (hb.mono (by simp; omega)))).setCell (by dsimp only; omega) _).setCell (by dsimp only; omega) _
end Go.Proofs.YtianjkiakkclgaaGreatDoor

/- Walks: the reference's Sign, Sub, Cmp; its contracts as values. -/
namespace Go.Proofs.YtianjkiakkclgaaGreatDoor
open Go Go.RowKit Bn
attribute [local go_sem ↓] Go.wp_at_zero Go.wp_at_succ
theorem r_sign_c (w : World) (b : Bool) (A n c l) (wa : Wd w A n c l) (hn : n ≤ 1099511627000) :
  Calls Tryz.prog 71 #[.agg #[.bool b, .slice A n c]] w (RetV w (.int .i64 (WD.z ⟨b, l⟩).sign)) := by
 have hz := WD.z_eq ⟨b, l⟩
 have hcan : Canon (WD.m ⟨b, l⟩) := WD.canon_m wa.1
 by_cases hm : WD.m ⟨b, l⟩ = []
 ·have HE := Lib.hid (show (WD.z ⟨b, l⟩).sign = 0 by rw [hz, hm]; cases WD.s ⟨b, l⟩ <;> rfl)
  have HM := Lib.hid hm
  clear hz hm hcan
  go_enter Tryz.func71, Tryz.ntmps71
  go_wp2_with fail
  (with_reducible refine (r_mag_c _ b A n c l ?_ ?_).mono ?_); (exact wa.keep ((Kp.refl _).alloc _)); (omega); rintro e w1 ⟨A1, n1, c1, rfl, h1, hb⟩
  have hn1 : n1 = 0 := by rw [h1.2.1, HM.out]; rfl
  subst hn1
  go_wp2_with fail
  go_ret
  exact retI HE.out.symm (((Below.refl _ _).alloc (Nat.le_refl _) _).trans (hb.mono (by simp)))
 ·obtain ⟨s, hs⟩ : ∃ s, WD.s ⟨b, l⟩ = s := ⟨_, rfl⟩
  have hv : val (WD.m ⟨b, l⟩) ≠ 0 := fun e => hm ((val_eq_zero hcan).1 e)
  have HE := Lib.hid (show (WD.z ⟨b, l⟩).sign = if s then -1 else 1 by
   rw [hz, hs]
   cases s
   ·simp only [sgn]; exact Int.sign_eq_one_of_pos (by simp; omega)
   ·simp only [sgn]; exact Int.sign_eq_neg_one_of_neg (by simp; omega))
  have HM := Lib.hid hm
  have HS := Lib.hid hs
  clear hz hm hcan hs hv
  go_enter Tryz.func71, Tryz.ntmps71
  go_wp2_with fail
  (with_reducible refine (r_mag_c _ b A n c l ?_ ?_).mono ?_); (exact wa.keep ((Kp.refl _).alloc _)); (omega); rintro e w1 ⟨A1, n1, c1, rfl, h1, hb⟩
  have hn1 : n1 ≠ 0 := fun e => HM.out (List.eq_nil_of_length_eq_zero (by rw [← h1.2.1, e]))
  have e0 : ((n1 : Int) == 0) = false := by simp; omega
  have q : Below w.heap.size w w1 := ((Below.refl _ _).alloc (Nat.le_refl _) _).trans (hb.mono (by simp))
  have x : Blk w1 w.heap.size 77 #[.bool b, .slice A n c] := (blkAt w _ _ rfl).below hb (by simp)
  have cx0 := x.c2
  clear hb hn1
  go_wp2_with fail
  (with_reducible refine (r_neg_c _ b A n c l ?_ ?_).mono ?_); (exact wa.belw q); (omega); rintro e w2 ⟨rfl, hb2⟩
  rw [HS.out]
  cases s
  all_goals
   go_wp2_with fail
   go_ret
   exact retI HE.out.symm (q.trans (hb2.mono q.size))
theorem cmpI_sub (x y : Int) : (x + -y).sign = cmpI x y := by
  unfold cmpI
  rcases Int.lt_trichotomy x y with h | h | h
  · rw [if_pos h]; exact Int.sign_eq_neg_one_of_neg (by omega)
  · subst h; simp [show x + -x = 0 by omega]
  · rw [if_neg (by omega), if_neg (by omega)]; exact Int.sign_eq_one_of_pos (by omega)
section
variable (w : World) (b A n c z k) (h : IZ w b A n c z k) (b' A' n' c' z' k') (h' : IZ w b' A' n' c' z' k')
include h
theorem r01_neg (hk : k ≤ 1000000000) : Calls Tryz.prog 97 #[.agg #[.bool b, .slice A n c]] w (RetI w (-z) k) := by
  have hz := h.lt
  obtain ⟨l, h1, rfl, h3⟩ := h
  exact (r_neg_C w b A n c l h1 (by omega)).mono fun _ _ r => r.i (by omega)
theorem r01_sign (hk : k ≤ 1000000000) : Calls Tryz.prog 71 #[.agg #[.bool b, .slice A n c]] w (RetV w (.int .i64 z.sign)) := by
  obtain ⟨l, h1, rfl, h3⟩ := h
  exact r_sign_c w b A n c l h1 (by omega)
include h'
theorem r01_add (hk : k + k' ≤ 1000000000) : Calls Tryz.prog 69 #[.agg #[.bool b, .slice A n c], .agg #[.bool b', .slice A' n' c']] w (RetI w (z + z') (k + k' + 1)) := by
  have hz := h.mono (Nat.le_add_right k k') |>.lt
  have hz' := h'.mono (Nat.le_add_left k' k) |>.lt
  obtain ⟨l, h1, rfl, h3⟩ := h
  obtain ⟨l', h1', rfl, h3'⟩ := h'
  exact (r_add_c w b A n c l h1 (by omega) b' A' n' c' l' h1' (by omega)).mono fun _ _ r => r.i (natAbs_add_lt hz hz')
end
theorem r01_of (w : World) (i : Int) (k : Nat) (h0 : -9223372036854775808 ≤ i) (h1 : i < 9223372036854775808) (hs : i.natAbs < 4294967296 ^ k) : Calls Tryz.prog 65 #[.int .i64 i] w (RetI w i k) :=
  (r_of_c w i h0 h1).mono fun _ _ r => r.i hs
theorem r01_of1 (w : World) (i : Int) (h0 : -4294967296 < i) (h1 : i < 4294967296) : Calls Tryz.prog 65 #[.int .i64 i] w (RetI w i 1) := r01_of w i 1 (by omega) (by omega) (by omega)
theorem r01_sub (w : World) (b A n c z k) (h : IZ w b A n c z k) (b' A' n' c' z' k') (h' : IZ w b' A' n' c' z' k') (hk : k + k' ≤ 1000000000) :
    Calls Tryz.prog 138 #[.agg #[.bool b, .slice A n c], .agg #[.bool b', .slice A' n' c']] w (RetI w (z + -z') (k + k' + 1)) := by
  go_enter Tryz.func138, Tryz.ntmps138
  go_wp2_with fail
  have p1 := ((((Kp.refl w).alloc (.cells #[.bool b, .slice A n c] 77)).alloc (.cells #[.bool b', .slice A' n' c'] 77)).alloc (.cells #[.bool false, .slice none 0 0] 77))
  have bw1 := ((((brefl w).alloc (by first | omega | (simp <;> omega)) (.cells #[.bool b, .slice A n c] 77)).alloc (by first | omega | (simp <;> omega)) (.cells #[.bool b', .slice A' n' c'] 77)).alloc (by first | omega | (simp <;> omega)) (.cells #[.bool false, .slice none 0 0] 77))
  have x1a : Blk (((w.alloc (.cells #[.bool b, .slice A n c] 77)).alloc (.cells #[.bool b', .slice A' n' c'] 77)).alloc (.cells #[.bool false, .slice none 0 0] 77)) w.heap.size 77 #[.bool b, .slice A n c] := (((blkAt _ _ _ (by simp)).alloc (.cells #[.bool b', .slice A' n' c'] 77)).alloc (.cells #[.bool false, .slice none 0 0] 77))
  have x1b : Blk (((w.alloc (.cells #[.bool b, .slice A n c] 77)).alloc (.cells #[.bool b', .slice A' n' c'] 77)).alloc (.cells #[.bool false, .slice none 0 0] 77)) (w.heap.size + 1) 77 #[.bool b', .slice A' n' c'] := ((blkAt _ _ _ (by simp)).alloc (.cells #[.bool false, .slice none 0 0] 77))
  have x1c : Blk (((w.alloc (.cells #[.bool b, .slice A n c] 77)).alloc (.cells #[.bool b', .slice A' n' c'] 77)).alloc (.cells #[.bool false, .slice none 0 0] 77)) (w.heap.size + 1 + 1) 77 #[.bool false, .slice none 0 0] := (blkAt _ _ _ (by simp))
  have lw1 : w.heap.size + 3 ≤ (((w.alloc (.cells #[.bool b, .slice A n c] 77)).alloc (.cells #[.bool b', .slice A' n' c'] 77)).alloc (.cells #[.bool false, .slice none 0 0] 77)).heap.size := by simp
  generalize hE1 : (((w.alloc (.cells #[.bool b, .slice A n c] 77)).alloc (.cells #[.bool b', .slice A' n' c'] 77)).alloc (.cells #[.bool false, .slice none 0 0] 77)) = w1 at p1 bw1 lw1 x1a x1b x1c ⊢
  clear hE1
  replace h := h.keep p1
  replace h' := h'.keep p1
  have cx1a := x1a.c2
  have lx1a := lts0 x1a.lt
  have cx1b := x1b.c2
  have lx1b := lts1 x1b.lt
  obtain ⟨cx1ca, cx1cb⟩ := x1c.c2
  obtain ⟨fx1ca, fx1cb⟩ := x1c.f2
  have lx1c := lts2 x1c.lt
  have nfx1_0_0 : ¬ w.heap.size = w.heap.size + 1 + 1 := by omega
  have nex1_0_0 : ¬ w.heap.size = w.heap.size + 2 := by omega
  have nfx1_1_0 : ¬ w.heap.size + 1 = w.heap.size + 1 + 1 := by omega
  have nex1_1_0 : ¬ w.heap.size = w.heap.size + 1 := by omega
  go_region_held3 (fun w' => SeesX w1.heap.size (w.heap.size + 1 + 1) w1 w') (first | with_reducible exact SeesX.of (Nat.le_refl _) (by assumption) | with_reducible exact SeesX.of (Nat.le_refl _) (brefl _).drew | with_reducible exact (SeesX.set (SeesX.set (SeesX.of (Nat.le_refl _) (by assumption)))) | with_reducible exact (SeesX.set (SeesX.of (Nat.le_refl _) (by assumption))) | exact SeesX.of (Nat.le_refl _) (below_drewN (brefl _) 1) | exact SeesX.of (Nat.le_refl _) (below_drewN (by assumption) _))
    (first
      | (go_at_call 97; (with_reducible refine (r01_neg _ b' A' n' c' (z') (k') ?_ ?_).mono ?_); (exact h'); (omega); rintro e w2 ⟨b2, A2, n2, c2, rfl, h2, hb2⟩; replace hb2 := bnext (below_drewN (brefl _) 1) hb2; have q2 : Below w1.heap.size w1 w2 := bnext (brefl w1) hb2; replace h := h.belw hb2; replace h' := h'.belw hb2)
      | (go_at_call 69; (with_reducible refine (r01_add _ b A n c (z) (k) ?_ b2 A2 n2 c2 (-(z')) ((k')) ?_ ?_).mono ?_); (exact h); (exact h2.iz); (omega); rintro e w3 ⟨b3, A3, n3, c3, rfl, h3, hb3⟩; have q3 : Below w1.heap.size w1 w3 := bnext q2 hb3; replace h := h.belw hb3; replace h' := h'.belw hb3; replace h2 := h2.belw hb3; have x1c := x1c.b q3; obtain ⟨cx1ca, cx1cb⟩ := x1c.c2; obtain ⟨fx1ca, fx1cb⟩ := x1c.f2))
  have bw3 := bw1.trans (q3.mono bw1.size)
  clear cx1a lx1a cx1b lx1b cx1ca fx1ca cx1cb fx1cb lx1c
  replace x1a := x1a.b q3
  replace x1b := x1b.b q3
  have lw3 := q3.size
  obtain ⟨cx1ca, cx1cb⟩ := x1c.c2
  obtain ⟨fx1ca, fx1cb⟩ := x1c.f2
  go_wp2_with fail
  refine bodyPost_ret (v := .agg #[.bool b3, .slice A3 n3 c3]) (by simp [results, Tryz.results138, go_sem, *] <;> trivial) rfl ?_
  exact ⟨b3, A3, n3, c3, rfl, h3.keep (((Kp.refl w3).sb (w.heap.size + 1 + 1) 0 x1c.box (by decide) (.bool b3)).sb (w.heap.size + 1 + 1) 1 (x1c.box.set ⟨w.heap.size + 1 + 1, 0, none⟩ (.bool b3)) (by decide) (.slice A3 n3 c3)), ((bw3.sc (w.heap.size + 1 + 1) 0 (by omega) (.bool b3)).sc (w.heap.size + 1 + 1) 1 (by omega) (.slice A3 n3 c3))⟩
theorem r01_cmp (w : World) (b A n c z k) (h : IZ w b A n c z k) (b' A' n' c' z' k') (h' : IZ w b' A' n' c' z' k') (hk : k + k' ≤ 999999999) :
  Calls Tryz.prog 107 #[.agg #[.bool b, .slice A n c], .agg #[.bool b', .slice A' n' c']] w (RetV w (.int .i64 (cmpI z z'))) := by
 go_enter Tryz.func107, Tryz.ntmps107
 go_wp2_with fail
 (with_reducible refine (r01_sub _ b A n c (z) (k) ?_ b' A' n' c' (z') (k') ?_ ?_).mono ?_); (exact (h.belw (((Below.refl _ _).alloc (Nat.le_refl _) _).alloc (by simp) _))); (exact (h'.belw (((Below.refl _ _).alloc (Nat.le_refl _) _).alloc (by simp) _))); (omega); rintro e w1 ⟨b1, A1, n1, c1, rfl, h1, hb1⟩
 have q1 := hb1.q2
 replace h := h.belw q1
 replace h' := h'.belw q1
 have x1a : Blk w1 w.heap.size 77 #[.bool b, .slice A n c] := ((blkAt _ _ _ (by simp)).alloc _).below hb1 (by simp <;> omega)
 have x1b := (blkAt _ _ _ (g := w.heap.size + 1) (by simp)).below hb1 (by simp)
 have bw1 := (brefl w).trans (q1.mono (brefl w).size)
 have lw1 := hb1.l2
 clear q1
 go_wp2_with fail
 (with_reducible refine (r01_sign _ b1 A1 n1 c1 ((z) + -(z')) ((k) + (k') + 1) ?_ ?_).mono ?_); (exact h1.iz); (omega); rintro e w2 ⟨rfl, q2⟩
 replace h := h.belw q2
 replace h' := h'.belw q2
 replace h1 := h1.belw q2
 replace x1a := x1a.b q2
 replace x1b := x1b.b q2
 have bw2 := bw1.trans (q2.mono bw1.size)
 have lw2 := q2.size
 clear q2 bw1
 go_wp2_with fail
 go_ret
 exact retI (cmpI_sub _ _) bw2
end Go.Proofs.YtianjkiakkclgaaGreatDoor

/- Walks: the reference's lists that are changed in their place. -/
namespace Go.Proofs.YtianjkiakkclgaaGreatDoor
open Go Go.RowKit Bn
attribute [local go_sem ↓] Go.wp_at_zero Go.wp_at_succ

def OwS (w : World) (B g n cap : Nat) (l : List Nat) : Prop := w.ownsRow B 100 1 (.slice (some ⟨g, 0, none⟩) n cap) n (words l) ∧ Wds l
theorem OwS.len {w : World} {B g n cap : Nat} {l : List Nat} (h : OwS w B g n cap l) : n = l.length := by have := h.1.1; rw [words_len] at this; omega
theorem OwS.base {w : World} {B g n cap : Nat} {l : List Nat} (h : OwS w B g n cap l) : B ≤ g := own_base h.1 g rfl
theorem OwS.toWd {w : World} {B g n cap : Nat} {l : List Nat} (h : OwS w B g n cap l) : Wd w (some ⟨g, 0, none⟩) n cap l := Wd.of_own h.1 h.2
theorem OwS.cell {w : World} {B g n cap : Nat} {l : List Nat} (h : OwS w B g n cap l) (i : Nat) (hi : i < n) : w.cell? ⟨g, i, none⟩ = some (.int .u32 (wd l i : Nat)) := by
  rw [h.1.cellAt i (by omega)]; exact words_get (by rw [← h.len]; exact hi)
theorem OwS.frozen {w : World} {B g n cap : Nat} {l : List Nat} (h : OwS w B g n cap l) (i : Nat) : w.frozen? ⟨g, i, none⟩ = false := h.1.frozenAt i
theorem OwS.lt {w : World} {B g n cap : Nat} {l : List Nat} (h : OwS w B g n cap l) : g < w.heap.size := by
  rcases h.1.2 with ⟨e, _⟩ | ⟨g', c', cur, e, _, hg, _⟩
  · cases e
  · injection e with e; injection e with e; injection e with e; subst e; exact lt_of_block hg
theorem OwS.cap {w : World} {B g n cap : Nat} {l : List Nat} (h : OwS w B g n cap l) : n ≤ cap := h.toWd.2.2.1
theorem OwS.cut {w : World} {B g n cap : Nat} {l : List Nat} (h : OwS w B g n cap l) {k : Nat} (hk : k ≤ n) : OwS w B g k cap (l.take k) := by
  have hl := h.len
  refine ⟨⟨by rw [words_len, List.length_take]; omega, ?_⟩, Wds.take h.2 k⟩
  rcases h.1.2 with ⟨e, _⟩ | ⟨g', c', cur, e, hb, hg, hc, hm, hs, ht⟩
  · cases e
  · injection e with e1 _ e2; injection e1 with e1; injection e1 with e1; subst e1 e2
    refine .inr ⟨g, cap, cur, rfl, hb, hg, by omega, hm, hs, ?_⟩
    have : words (l.take k) = (words l).take k := by simp [words, List.map_take]
    rw [this, ← ht, List.take_take]; congr 1; omega
theorem words_set (l : List Nat) (i x : Nat) : (words l).set i (.int .u32 (x : Nat)) = words (l.set i x) := by simp [words, List.map_set]
theorem OwS.set {w : World} {B g n cap : Nat} {l : List Nat} (h : OwS w B g n cap l) (i : Nat) {x : Nat} (hx : x < 4294967296) {z : Int} (hz : z = x) : OwS (w.setCell ⟨g, i, none⟩ (.int .u32 z)) B g n cap (l.set i x) := by
  subst hz
  refine ⟨?_, wds_set h.2 i hx⟩
  rw [← words_set]
  exact (h.1.stored i _).1
def Only (g : Nat) (w w' : World) : Prop := Below g w w' ∧ w'.heap.size = w.heap.size ∧ ∀ b, b ≠ g → w'.heap[b]? = w.heap[b]?
theorem Only.refl (g : Nat) (w : World) : Only g w w := ⟨Below.refl _ _, rfl, fun _ _ => rfl⟩
theorem Only.set {g : Nat} {w w' : World} (h : Only g w w') (i : Nat) (u : Value) : Only g w (w'.setCell ⟨g, i, none⟩ u) :=
  ⟨h.1.setCell (p := ⟨g, i, none⟩) (Nat.le_refl _) u, by rw [← h.2.1]; simp [World.setCell], fun b hb => (Below.heap_setCell w' ⟨g, i, none⟩ u b hb).trans (h.2.2 b hb)⟩
theorem Only.trans {g : Nat} {a b c : World} (h : Only g a b) (k : Only g b c) : Only g a c := ⟨h.1.trans k.1, k.2.1.trans h.2.1, fun x hx => (k.2.2 x hx).trans (h.2.2 x hx)⟩
theorem Only.own {g : Nat} {w w' : World} (h : Only g w w') {B g' n cap : Nat} {l : List Nat} (k : OwS w B g' n cap l) (hg : g' ≠ g) : OwS w' B g' n cap l := by
  refine ⟨⟨k.1.1, ?_⟩, k.2⟩
  rcases k.1.2 with ⟨e, _⟩ | ⟨g1, c', cur, e, hb, hgg, r⟩
  · cases e
  · have e' := e
    injection e with e1 _ e2; injection e1 with e1; injection e1 with e1; subst e1
    exact .inr ⟨g', c', cur, e', hb, (h.2.2 _ hg).trans hgg, r⟩
theorem Only.wd {g : Nat} {w w' : World} (h : Only g w w') {g' o n c : Nat} {l : List Nat} (k : Wd w (some ⟨g', o, none⟩) n c l) (hg : g' ≠ g) : Wd w' (some ⟨g', o, none⟩) n c l := by
  refine ⟨k.1, k.2.1, k.2.2.1, fun hn => ?_⟩
  obtain ⟨g1, o1, cur, fr, e, hb, hc⟩ := k.2.2.2 hn
  have e' := e
  injection e with e1; injection e1 with e1; subst e1
  exact ⟨_, o1, cur, fr, e', hb.same (h.2.2 _ hg), hc⟩
def RetO (w : World) (l : List Nat) (e : Ending) (w' : World) : Prop := ∃ g k cap, e = .returned (.slice (some ⟨g, 0, none⟩) k cap) ∧ OwS w' w.heap.size g k cap l ∧ Below w.heap.size w w'
theorem r_trim_o (w : World) (A : Option Addr) (n c : Nat) (l : List Nat) (h : Wd w A n c l) (hn : n ≤ 4398046511104) :
  Calls Tryz.prog 135 #[.slice A n c] w (RetO w (digs (val l))) := by
 have HL := Lib.hid h.2.1
 have hcap : n ≤ c := h.2.2.1
 obtain ⟨i0, hi0, hz0, hz1, hz2⟩ := info_parts info_u32
 by_cases h0 : n = 0
 ·subst h0
  have HE := Lib.hid (show digs (val l) = [] by rw [List.eq_nil_of_length_eq_zero HL.out.symm]; exact digs_zero)
  clear h hn
  go_enter Tryz.func135, Tryz.ntmps135
  go_wp2_with (at_builtin; refine wpList_append_empty rfl _ _ _ rfl 100 i0 Tryz.underlying22 hi0 _ _ _ rfl rfl ?_)
  go_loop [3] (fun v => v = .slice (some ⟨w.heap.size, 0, none⟩) 0 0) (fun _ => 0)
  case atStart => rfl
  case round =>
   subst hrel
   go_wp2
   go_ret
   refine ⟨_, _, _, rfl, ?_, (Below.refl _ _).alloc (Nat.le_refl _) _⟩
   rw [HE.out]
   exact ⟨World.ownsRow_lit (e := 100) (size := 1) w #[] 0 (Nat.le_refl _) (by simp [maxLen]) rfl, by simp [Wds]⟩
 ·obtain ⟨g, o, rfl, hc⟩ := h.at_ (by omega)
  clear hc
  have hp : 0 < n := by omega
  have hown := World.ownsRow_lit (e := 100) (size := 1) w #[] 0 (Nat.le_refl _) (by simp [maxLen]) rfl
  have hnews := (h.keep ((Kp.refl w).alloc (.cells #[] 100))).news (by omega) (Nat.le_refl _)
  have hnl : (words (l.take n)).length = n * 1 := by rw [words_len, List.length_take, ← HL.out]; omega
  have HO := Lib.hid hown
  have HN := Lib.hid hnews
  have HNL := Lib.hid hnl
  have HW := Lib.hid h.1
  clear hown hnews hnl h h0
  go_enter Tryz.func135, Tryz.ntmps135
  go_wp2_with (at_builtin; refine wpList_append_lies _ rfl _ _ _ rfl w.heap.size 100 i0 (.int .u32 0) 1 4 Tryz.underlying22 hi0 hz0 hz1 hz2 rfl (by omega) _ 0 [] rfl HO.out ⟨g, o, none⟩ n c (words (l.take n)) rfl HNL.out HN.out (words_one _) (by omega) (by unfold maxLen; omega) (by omega) (by simp) (w.heap.size + 1) (by simp) ?_; intro gx cap w1 hown1 hgrow hat hlt1)
  simp only [Nat.zero_add, List.nil_append] at hown1
  have hw1 := Wd.of_own hown1 (Wds.take HW.out n)
  rw [List.take_of_length_le (Nat.le_of_eq HL.out.symm)] at hw1
  have hbel := ((Below.refl w.heap.size w).alloc (Nat.le_refl _) (.cells #[] 100)).grown hgrow (by simp) (fun b hb => Nat.le_of_eq (Option.some.inj hb))
  have HW1 := Lib.hid hw1
  rw [List.take_of_length_le (Nat.le_of_eq HL.out.symm)] at hown1
  have HOW := Lib.hid (show OwS w1 w.heap.size gx n cap l from ⟨hown1, HW.out⟩)
  have HB := Lib.hid hbel
  have hcap1 : n ≤ cap := hw1.2.2.1
  clear hown1 hgrow hat hw1 hbel HO HN HNL
  go_loop [3] (fun v => ∃ k : Nat, k ≤ n ∧ v = .slice (some ⟨gx, 0, none⟩) k cap ∧ TrimI l k) (fun v => match v with | .slice _ k _ => k | _ => 0)
  case atStart => exact ⟨n, Nat.le_refl _, by simp, fun i hi => wd_ge (by rw [← HL.out]; exact hi)⟩
  case round =>
   obtain ⟨k, hk, rfl, ht⟩ := hrel
   by_cases h0 : k = 0
   ·subst h0
    have HT := Lib.hid ht
    clear ht
    go_wp2
    go_ret
    refine ⟨_, _, _, rfl, ?_, HB.out⟩
    have := digs_of_take HW.out (Nat.zero_le _) HT.out (.inl rfl)
    rw [this]; exact HOW.out.cut (Nat.zero_le _)
   ·have hkp : 0 < k := by omega
    obtain ⟨g', o', e, hc⟩ := HW1.out.at_ (by omega)
    injection e with e; injection e with e1 e2
    subst e1 e2
    have hck := hc (k - 1) (by omega)
    rw [Nat.zero_add] at hck
    have hlt := HW1.out.lt (k - 1)
    have HT := Lib.hid ht
    generalize hx : wd l (k - 1) = x at *
    have HX := Lib.hid hx
    clear hc h0 ht hx
    by_cases hz : x = 0
    ·subst hz
     go_wp2
     go_round
     case rel => exact ⟨k - 1, by omega, rfl, fun i hi => by
      by_cases he : i = k - 1
      ·subst he; exact HX.out
      ·exact HT.out i (by omega)⟩
     case measure => dsimp only; omega
    ·have hz' : ((x : Int) == 0) = false := by simp; omega
     have HZ := Lib.hid hz
     clear hz
     go_wp2
     go_ret
     have hd := digs_of_take HW.out (by rw [← HL.out]; exact hk) HT.out (.inr (by rw [HX.out]; exact HZ.out))
     refine ⟨_, _, _, rfl, ?_, HB.out⟩
     rw [hd]; exact HOW.out.cut hk
def RetC (w : World) (B g cap : Nat) (l : List Nat) (e : Ending) (w' : World) : Prop := ∃ k, e = .returned (.slice (some ⟨g, 0, none⟩) k cap) ∧ OwS w' B g k cap l ∧ w = w'
theorem r_cut_o (w : World) (B g n cap : Nat) (l : List Nat) (h : OwS w B g n cap l) (hn : n ≤ 4398046511104) :
  Calls Tryz.prog 161 #[.slice (some ⟨g, 0, none⟩) n cap] w (RetC w B g cap (digs (val l))) := by
 have hcap := h.cap
 have HL := Lib.hid h.len
 have HO := Lib.hid h
 clear h
 go_enter Tryz.func161, Tryz.ntmps161
 go_wp2_with fail
 go_loop [0] (fun v => ∃ k : Nat, k ≤ n ∧ v = .slice (some ⟨g, 0, none⟩) k cap ∧ TrimI l k) (fun v => match v with | .slice _ k _ => k | _ => 0)
 case atStart => exact ⟨n, Nat.le_refl _, rfl, fun i hi => wd_ge (by rw [← HL.out]; exact hi)⟩
 case round =>
  obtain ⟨k, hk, rfl, ht⟩ := hrel
  by_cases h0 : k = 0
  ·subst h0
   have HT := Lib.hid ht
   clear ht
   go_wp2
   go_ret
   refine ⟨_, rfl, ?_, rfl⟩
   have := digs_of_take HO.out.2 (Nat.zero_le _) HT.out (.inl rfl)
   rw [this]; exact HO.out.cut (Nat.zero_le _)
  ·have hkp : 0 < k := by omega
   have hck := HO.out.cell (k - 1) (by omega)
   have hlt := wd_lt HO.out.2 (k - 1)
   have HT := Lib.hid ht
   generalize hx : wd l (k - 1) = x at *
   have HX := Lib.hid hx
   clear h0 ht hx
   by_cases hz : x = 0
   ·subst hz
    go_wp2
    go_round
    case rel => exact ⟨k - 1, by omega, rfl, fun i hi => by
     by_cases he : i = k - 1
     ·subst he; exact HX.out
     ·exact HT.out i (by omega)⟩
    case measure => dsimp only; omega
   ·have hz' : ((x : Int) == 0) = false := by simp; omega
    have HZ := Lib.hid hz
    clear hz
    go_wp2
    go_ret
    have hd := digs_of_take HO.out.2 (by rw [← HL.out]; exact hk) HT.out (.inr (by rw [HX.out]; exact HZ.out))
    refine ⟨_, rfl, ?_, rfl⟩
    rw [hd]; exact HO.out.cut hk
end Go.Proofs.YtianjkiakkclgaaGreatDoor

/- Walks: the reference's halving in place. -/
namespace Go.Proofs.YtianjkiakkclgaaGreatDoor
open Go Go.RowKit Bn
attribute [local go_sem ↓] Go.wp_at_zero Go.wp_at_succ

theorem half_nat {x y : Nat} (hx : x < 4294967296) : (x / 2 ||| y * 2147483648) % 4294967296 = x / 2 + (y % 2) * 2147483648 := by
  have h1 : x / 2 < 2 ^ 31 := by omega
  have h2 : y * 2147483648 ||| x / 2 = y * 2147483648 + x / 2 := by
    have := Nat.shiftLeft_add_eq_or_of_lt h1 y
    rw [Nat.shiftLeft_eq] at this
    exact this.symm
  rw [Nat.or_comm, h2]; omega
def HalveI (l L : List Nat) (j : Nat) : Prop := Wds L ∧ L.length = l.length ∧ (∀ i, j ≤ i → wd L i = wd l i) ∧ 2 * Sm (wd L) j + wd l 0 % 2 = Sm (wd l) j + wd l j % 2 * 4294967296 ^ j
theorem HalveI.start {l : List Nat} (h : Wds l) : HalveI l l 0 := ⟨h, rfl, fun _ _ => rfl, by simp [Sm]⟩
theorem HalveI.step {l L : List Nat} {j : Nat} (h : HalveI l L j) (hj : j < l.length) (hl : Wds l) : HalveI l (L.set j (wd l j / 2 + (wd l (j + 1) % 2) * 2147483648)) (j + 1) := by
  obtain ⟨h1, h2, h3, h4⟩ := h
  have hx := wd_lt hl j
  refine ⟨wds_set h1 j (by omega), by rw [List.length_set]; exact h2, fun i hi => ?_, ?_⟩
  · rw [wd_set, if_neg (by omega)]; exact h3 i (by omega)
  · rw [Sm_set_succ _ _ _ (by omega), Sm]
    generalize wd l j = x at *
    generalize wd l (j + 1) = y at *
    generalize wd l 0 = z at *
    rw [Nat.pow_succ]
    have e : 2 * ((x / 2 + y % 2 * 2147483648) * 4294967296 ^ j) + x % 2 * 4294967296 ^ j = x * 4294967296 ^ j + y % 2 * (4294967296 ^ j * 4294967296) := by
      have hx2 : x = 2 * (x / 2) + x % 2 := by omega
      generalize x / 2 = p at *
      generalize x % 2 = r at *
      subst hx2
      generalize 4294967296 ^ j = P
      grind
    omega
theorem HalveI.fin {l L : List Nat} (h : HalveI l L l.length) : val L = val l / 2 := by
  obtain ⟨h1, h2, h3, h4⟩ := h
  rw [Sm_ge L (by omega), Sm_ge l (Nat.le_refl _), wd_ge (Nat.le_refl _)] at h4
  omega
theorem half_word {x y : Nat} (hx : x < 4294967296) (hy : y < 4294967296) {s : Int} (hs : bits .or .u64 ((x : Int) / 2) ((y : Int) * 2147483648) = s) : IntKind.u32.wrap s = ((x / 2 + y % 2 * 2147483648 : Nat) : Int) := by
  have e1 : (x : Int) / 2 = ((x / 2 : Nat) : Int) := by omega
  have e2 : (y : Int) * 2147483648 = ((y * 2147483648 : Nat) : Int) := by simp
  rw [e1, e2, u64_or_nat _ _ (by omega) (by omega)] at hs
  subst hs
  rw [IntKind.wrap_u32]
  have := half_nat (y := y) hx
  omega
def RetH (w : World) (B g cap : Nat) (l : List Nat) (e : Ending) (w' : World) : Prop := ∃ k, e = .returned (.slice (some ⟨g, 0, none⟩) k cap) ∧ OwS w' B g k cap l ∧ Only g w w'
theorem r_halve_o (w : World) (B g n cap : Nat) (l : List Nat) (h : OwS w B g n cap l) (hn : n ≤ 1099511627776) :
  Calls Tryz.prog 159 #[.slice (some ⟨g, 0, none⟩) n cap] w (RetH w B g cap (digs (val l / 2))) := by
 have hcap := h.cap
 have hlen := h.len
 have HL := Lib.hid h.len
 have HW := Lib.hid h.2
 have HS := Lib.hid (HalveI.start h.2)
 have HO := Lib.hid h
 clear h hlen
 go_enter Tryz.func159, Tryz.ntmps159
 go_wp2_with fail
 go_loopw [6] (fun iv wr => ∃ (j : Nat) (L : List Nat), j ≤ n ∧ iv = .int .i64 (j : Nat) ∧ HalveI l L j ∧ OwS wr B g n cap L ∧ Only g w wr) (fun iv _ => n - (intOf iv).toNat)
 case atStart => exact ⟨0, l, Nat.zero_le _, rfl, HS.out, HO.out, Only.refl _ _⟩
 case round =>
  obtain ⟨j, L, hj, rfl, hI, hw, hon⟩ := hrel
  have HI := Lib.hid hI
  have HWr := Lib.hid hw
  have HOn := Lib.hid hon
  clear hI hw hon
  by_cases hlt : j < n
  ·obtain ⟨x, y, hx, hy⟩ : ∃ x y, wd l j = x ∧ wd l (j + 1) = y := ⟨_, _, rfl, rfl⟩
   have hx1 : x < 4294967296 := by rw [← hx]; exact wd_lt HW.out j
   have hy1 : y < 4294967296 := by rw [← hy]; exact wd_lt HW.out (j + 1)
   have HX := Lib.hid (show wd L j = x by rw [HI.out.2.2.1 j (Nat.le_refl _), hx])
   have HY := Lib.hid (show wd L (j + 1) = y by rw [HI.out.2.2.1 (j + 1) (by omega), hy])
   have HXY := Lib.hid (And.intro hx hy)
   have hck := HWr.out.cell j hlt
   have hfk := HWr.out.frozen j
   obtain ⟨s, hs⟩ : ∃ s, bits .or .u64 ((x : Int) / 2) ((y : Int) * 2147483648) = s := ⟨_, rfl⟩
   have e32 := half_word hx1 hy1 hs
   have HE := Lib.hid e32
   have ej : ((j : Int) + 1) = ((j + 1 : Nat) : Int) := by omega
   have HEJ := Lib.hid ej
   clear hx hy ej
   go_wp2_with (first
    | (go_at_call 137; (with_reducible refine (r_word_x _ (some ⟨g, 0, none⟩) n cap L ?_ j x HX.out (by omega)).mono ?_); exact HWr.out.toWd; rintro e w' ⟨rfl, rfl⟩)
    | (go_at_call 137; rw [HEJ.out]; (with_reducible refine (r_word_x _ (some ⟨g, 0, none⟩) n cap L ?_ (j + 1) y HY.out (by omega)).mono ?_); exact HWr.out.toWd; rintro e w' ⟨rfl, rfl⟩))
   go_roundw
   case rel =>
    have hst := HI.out.step (by rw [← HL.out]; exact hlt) HW.out
    rw [HXY.out.1, HXY.out.2] at hst
    exact ⟨j + 1, _, by omega, by go_num, hst, HWr.out.set j (by omega) (by omega), HOn.out.set j _⟩
   case measure => simp [intOf]; omega
  ·have hjn : j = n := by omega
   subst hjn
   have HV := Lib.hid (show val L = val l / 2 from HalveI.fin (by have := HI.out; rw [HL.out] at this; exact this))
   go_wp2_with fail
   (with_reducible refine (r_cut_o _ B g j cap L ?_ ?_).mono ?_); (exact HWr.out); (omega); rintro e w1 ⟨k, rfl, h1, rfl⟩
   go_wp2
   go_ret
   rw [HV.out] at h1
   exact ⟨k, rfl, h1, HOn.out⟩
end Go.Proofs.YtianjkiakkclgaaGreatDoor

/- Walks: the reference's subtraction in place. -/
namespace Go.Proofs.YtianjkiakkclgaaGreatDoor
open Go Go.RowKit Bn
attribute [local go_sem ↓] Go.wp_at_zero Go.wp_at_succ

theorem Only.wd_ {g : Nat} {w w' : World} (h : Only g w w') {A : Option Addr} {n c : Nat} {l : List Nat} (k : Wd w A n c l) (hne : ∀ ad, A = some ad → ad.block ≠ g) : Wd w' A n c l := by
  refine ⟨k.1, k.2.1, k.2.2.1, fun hn => ?_⟩
  obtain ⟨g1, o1, cur, fr, e, hb, hc⟩ := k.2.2.2 hn
  exact ⟨g1, o1, cur, fr, e, hb.same (h.2.2 _ (hne _ e)), hc⟩
def RetTk (w : World) (B g n cap : Nat) (v : Nat) (e : Ending) (w' : World) : Prop := ∃ L, e = .returned (.tuple #[]) ∧ OwS w' B g n cap L ∧ val L = v ∧ Only g w w'
def TakeI (l l' L : List Nat) (k br : Nat) : Prop := LessI l l' L k br ∧ L.length = l.length ∧ ∀ i, k ≤ i → wd L i = wd l i
theorem r_take_o (w : World) (B g n cap : Nat) (l : List Nat) (h : OwS w B g n cap l) (hn : n ≤ 1099511627776) (A' n' c' l') (wb : Wd w A' n' c' l') (hne : ∀ ad, A' = some ad → ad.block ≠ g) (hn' : n' ≤ n) (hv : val l' ≤ val l) :
  Calls Tryz.prog 160 #[.slice (some ⟨g, 0, none⟩) n cap, .slice A' n' c'] w (RetTk w B g n cap (val l - val l')) := by
 have hcap := h.cap
 have HL := Lib.hid h.len
 have HL' := Lib.hid wb.2.1
 have HW := Lib.hid h.2
 have HV := Lib.hid hv
 have HO := Lib.hid h
 have HWB := Lib.hid wb
 have HNE := Lib.hid hne
 clear h hv wb hne
 go_enter Tryz.func160, Tryz.ntmps160
 go_wp2_with fail
 go_loopw [4, 9] (fun cv iv wr => ∃ (k br : Nat) (L : List Nat), k ≤ n ∧ iv = .int .i64 (k : Nat) ∧ cv = .int .u64 (br : Nat) ∧ br ≤ 1 ∧ TakeI l l' L k br ∧ OwS wr B g n cap L ∧ Only g w wr) (fun _ iv _ => n - (intOf iv).toNat)
 case atStart => exact ⟨0, 0, l, Nat.zero_le _, rfl, rfl, by omega, ⟨⟨HW.out, by simp [Sm]⟩, rfl, fun _ _ => rfl⟩, HO.out, Only.refl _ _⟩
 case round =>
  obtain ⟨k, br, L, hk, rfl, rfl, hbr, hI, hw, hon⟩ := hrel
  have HI := Lib.hid hI
  have HWr := Lib.hid hw
  have HOn := Lib.hid hon
  clear hI hw hon
  by_cases hkM : k < n
  ·obtain ⟨x, y, hx, hy⟩ : ∃ x y, wd l k = x ∧ wd l' k = y := ⟨_, _, rfl, rfl⟩
   have hx1 : x < 4294967296 := by rw [← hx]; exact wd_lt HW.out k
   have hy1 : y < 4294967296 := by rw [← hy]; exact HWB.out.lt k
   have HX := Lib.hid (show wd L k = x by rw [HI.out.2.2 k (Nat.le_refl _), hx])
   have HY := Lib.hid hy
   have HXl := Lib.hid hx
   have hck := HWr.out.cell k hkM
   have hfk := HWr.out.frozen k
   clear hx hy
   go_wp2_with (first
    | (go_at_call 137; (with_reducible refine (r_word_x _ (some ⟨g, 0, none⟩) n cap L ?_ k x HX.out (by omega)).mono ?_); exact HWr.out.toWd; rintro e w' ⟨rfl, rfl⟩)
    | (go_at_call 137; (with_reducible refine (r_word_x _ A' n' c' l' ?_ k y HY.out (by omega)).mono ?_); exact HOn.out.wd_ HWB.out HNE.out; rintro e w' ⟨rfl, rfl⟩))
   go_roundw
   case rel =>
    refine ⟨k + 1, 1 - (4294967296 + x - y - br) / 4294967296, L.set k ((4294967296 + x - y - br) % 4294967296), by omega, by go_num, by congr 1; omega, by omega, ⟨⟨wds_set HI.out.1.1 _ (Nat.mod_lt _ (by omega)), ?_⟩, by rw [List.length_set]; exact HI.out.2.1, fun i hi => ?_⟩, HWr.out.set k (Nat.mod_lt _ (by omega)) (by omega), HOn.out.set k _⟩
    ·rw [Sm_set_succ _ _ _ (by rw [HI.out.2.1, ← HL.out]; exact hkM), Sm, Sm, HXl.out, HY.out, Nat.pow_succ]
     exact less_step HI.out.1.2 (by omega)
    ·rw [wd_set, if_neg (by omega)]; exact HI.out.2.2 i (by omega)
   case measure => simp [intOf]; omega
  ·have hkk : k = n := by omega
   subst hkk
   have hv2 : val L = val l - val l' := by
    have h1 := HI.out.1.2
    have h2 := val_lt HI.out.1.1
    have h3 := HV.out
    have h4 := HI.out.2.1
    have h5 := HL.out
    rw [h4, ← h5] at h2
    rw [Sm_ge L (by omega), Sm_ge l (by omega), Sm_ge l' (by rw [← HL'.out]; omega)] at h1
    rcases (show br = 0 ∨ br = 1 by omega) with rfl | rfl
    ·omega
    ·omega
   have HV2 := Lib.hid hv2
   clear hv2
   go_wp2_with fail
   go_end0
   exact ⟨L, rfl, HWr.out, HV2.out, HOn.out⟩
end Go.Proofs.YtianjkiakkclgaaGreatDoor

/- Walks: the reference's greatest common divisor, by halving and subtracting. -/
namespace Go.Proofs.YtianjkiakkclgaaGreatDoor
open Go Go.RowKit Bn
attribute [local go_sem ↓] Go.wp_at_zero Go.wp_at_succ

def Two (w wr : World) (N : Nat) (va vb : Value) (x y : Nat) : Prop := ∃ ga na ca gb nb cb, va = .slice (some ⟨ga, 0, none⟩) na ca ∧ vb = .slice (some ⟨gb, 0, none⟩) nb cb ∧ OwS wr w.heap.size ga na ca (digs x) ∧ OwS wr w.heap.size gb nb cb (digs y) ∧ ga ≠ gb ∧ Below w.heap.size w wr ∧ x < 4294967296 ^ N ∧ y < 4294967296 ^ N
theorem own_len {w : World} {B g n cap x N : Nat} (h : OwS w B g n cap (digs x)) (hx : x < 4294967296 ^ N) : n ≤ N := by rw [h.len]; exact length_digs_le hx
theorem own_pos {w : World} {B g n cap x : Nat} (h : OwS w B g n cap (digs x)) (hx : 0 < x) : 0 < n := by
  rw [h.len]; rcases Nat.eq_zero_or_pos (digs x).length with h1 | h1
  · have := digs_eq_nil.1 (List.eq_nil_of_length_eq_zero h1); omega
  · exact h1
theorem wd_digs0 (x : Nat) : wd (digs x) 0 = x % 4294967296 := by
  by_cases h : x = 0
  · subst h; rw [digs_zero]; rfl
  · rw [digs_pos h]; rfl
theorem own_head {w : World} {B g n cap x : Nat} (h : OwS w B g n cap (digs x)) (hx : 0 < x) : w.cell? ⟨g, 0, none⟩ = some (.int .u32 ((x % 4294967296 : Nat) : Int)) := by
  rw [← wd_digs0]; exact h.cell 0 (own_pos h hx)
theorem and_one (p : Nat) (hp : p < 4294967296) : Go.bits .and .u32 (p : Int) 1 = ((p % 2 : Nat) : Int) := by
  have := u32_and_nat p 1 hp (by decide)
  rw [Nat.and_one_is_mod] at this
  exact this
theorem even_u32 {p : Nat} (hp : p < 4294967296) (h : p % 2 = 0) : (Go.bits .and .u32 (p : Int) 1 == 0) = true := by rw [and_one p hp, h]; rfl
theorem odd_u32 {p : Nat} (hp : p < 4294967296) (h : p % 2 = 1) : (Go.bits .and .u32 (p : Int) 1 == 0) = false := by rw [and_one p hp, h]; rfl
theorem OwS.of_digs {w : World} {B g n cap v x : Nat} (h : OwS w B g n cap (digs (val (digs v) / x))) : OwS w B g n cap (digs (v / x)) := by rw [val_digs] at h; exact h
theorem Two.left {w wr w1 : World} {N ga na ca gb nb cb x y u k : Nat} (hT : Two w wr N (.slice (some ⟨ga, 0, none⟩) na ca) (.slice (some ⟨gb, 0, none⟩) nb cb) x y) (ho : OwS w1 w.heap.size ga k ca (digs u)) (hon : Only ga wr w1) (hu : u ≤ x) : Two w w1 N (.slice (some ⟨ga, 0, none⟩) k ca) (.slice (some ⟨gb, 0, none⟩) nb cb) u y := by
  obtain ⟨ga', na', ca', gb', nb', cb', e1, e2, oa, ob, hg, hbl, hxN, hyN⟩ := hT
  injection e1 with e1 e3 e4; injection e1 with e1; injection e1 with e1
  injection e2 with e2 e5 e6; injection e2 with e2; injection e2 with e2
  subst e1 e2 e3 e4 e5 e6
  exact ⟨ga, k, ca, gb, nb, cb, rfl, rfl, ho, hon.own ob (Ne.symm hg), hg, hbl.trans (hon.1.mono oa.base), Nat.lt_of_le_of_lt hu hxN, hyN⟩
theorem Two.swap {w wr : World} {N : Nat} {va vb : Value} {x y : Nat} (hT : Two w wr N va vb x y) : Two w wr N vb va y x := by
  obtain ⟨ga, na, ca, gb, nb, cb, e1, e2, oa, ob, hg, hbl, hxN, hyN⟩ := hT
  exact ⟨gb, nb, cb, ga, na, ca, e2, e1, ob, oa, Ne.symm hg, hbl, hyN, hxN⟩
theorem own_val {w : World} {B g n cap x : Nat} (h : OwS w B g n cap (digs x)) : valOf w (.slice (some ⟨g, 0, none⟩) n cap) = x := by rw [h.toWd.valOf, val_digs]
theorem Two.at_ {w wr : World} {N ga na ca gb nb cb x y : Nat} (hT : Two w wr N (.slice (some ⟨ga, 0, none⟩) na ca) (.slice (some ⟨gb, 0, none⟩) nb cb) x y) : OwS wr w.heap.size ga na ca (digs x) ∧ OwS wr w.heap.size gb nb cb (digs y) ∧ ga ≠ gb ∧ Below w.heap.size w wr ∧ x < 4294967296 ^ N ∧ y < 4294967296 ^ N := by
  obtain ⟨ga', na', ca', gb', nb', cb', e1, e2, h⟩ := hT
  injection e1 with e1 e3 e4; injection e1 with e1; injection e1 with e1
  injection e2 with e2 e5 e6; injection e2 with e2; injection e2 with e2
  subst e1 e2 e3 e4 e5 e6
  exact h
theorem OwS.belw {w w' : World} {B g n cap : Nat} {l : List Nat} (h : OwS w B g n cap l) (hb : Below w.heap.size w w') : OwS w' B g n cap l := by
  refine ⟨⟨h.1.1, ?_⟩, h.2⟩
  rcases h.1.2 with ⟨e, _⟩ | ⟨g', cap', cur, e, hb1, hgg, r⟩
  · cases e
  · exact .inr ⟨g', cap', cur, e, hb1, (hb.block g' (lt_of_block hgg)).trans hgg, r⟩
theorem Two.belw {w wr w1 : World} {N : Nat} {va vb : Value} {x y : Nat} (hT : Two w wr N va vb x y) (hb : Below wr.heap.size wr w1) : Two w w1 N va vb x y := by
  obtain ⟨ga, na, ca, gb, nb, cb, e1, e2, oa, ob, hg, hbl, hxN, hyN⟩ := hT
  exact ⟨ga, na, ca, gb, nb, cb, e1, e2, oa.belw hb, ob.belw hb, hg, hbl.trans (hb.mono hbl.size), hxN, hyN⟩
theorem digs_len_mono {a b : Nat} (h : a ≤ b) : (digs a).length ≤ (digs b).length := length_digs_le (Nat.lt_of_le_of_lt h (by have := val_lt (wds_digs b); rwa [val_digs] at this))
theorem Two.form {w wr : World} {N : Nat} {va vb : Value} {x y : Nat} (hT : Two w wr N va vb x y) : ∃ ga na ca gb nb cb, va = .slice (some ⟨ga, 0, none⟩) na ca ∧ vb = .slice (some ⟨gb, 0, none⟩) nb cb := by
  obtain ⟨ga, na, ca, gb, nb, cb, e1, e2, _⟩ := hT
  exact ⟨ga, na, ca, gb, nb, cb, e1, e2⟩
theorem two_bound {t x x0 N : Nat} (h : x0 = 2 ^ t * x) (hx : 0 < x) (hN : x0 < 4294967296 ^ N) : t < 32 * N := by
  have h1 : 2 ^ t ≤ x0 := by rw [h]; exact Nat.le_mul_of_pos_right _ hx
  have h2 : (4294967296 : Nat) ^ N = 2 ^ (32 * N) := by rw [Nat.pow_mul]
  rw [h2] at hN
  exact (Nat.pow_lt_pow_iff_right (by omega)).1 (Nat.lt_of_le_of_lt h1 hN)
theorem gcd_odd {x y : Nat} (h : ¬ (x % 2 = 0 ∧ y % 2 = 0)) : Nat.gcd x y % 2 = 1 := by
  rcases Nat.mod_two_eq_zero_or_one (Nat.gcd x y) with h1 | h1
  · exfalso
    have h2 : 2 ∣ Nat.gcd x y := Nat.dvd_of_mod_eq_zero h1
    exact h ⟨Nat.mod_eq_zero_of_dvd (Nat.dvd_trans h2 (Nat.gcd_dvd_left x y)), Nat.mod_eq_zero_of_dvd (Nat.dvd_trans h2 (Nat.gcd_dvd_right x y))⟩
  · exact h1
theorem gcd_half {u v G : Nat} (h : Nat.gcd u v = G) (hG : G % 2 = 1) (hu : u % 2 = 0) : Nat.gcd (u / 2) v = G := by
  have hv : v % 2 = 1 := by
    rcases Nat.mod_two_eq_zero_or_one v with h1 | h1
    · exfalso
      have h2 : 2 ∣ Nat.gcd u v := Nat.dvd_gcd (Nat.dvd_of_mod_eq_zero hu) (Nat.dvd_of_mod_eq_zero h1)
      rw [h] at h2
      have := Nat.mod_eq_zero_of_dvd h2
      omega
    · exact h1
  rw [gcd_left_even hu hv]; exact h
theorem r_gcd_c (w : World) (N : Nat) (hN : N ≤ 1099511627000) (A n c l) (wa : Wd w A n c l) (hn : n ≤ N) (A' n' c' l') (wb : Wd w A' n' c' l') (hn' : n' ≤ N) (h0 : val l ≠ 0) (h0' : val l' ≠ 0) :
  Calls Tryz.prog 133 #[.slice A n c, .slice A' n' c'] w (RetL w (digs (Nat.gcd (val l) (val l')))) := by
 have hvl := wa.vlt hn
 have hvl' := wb.vlt hn'
 obtain ⟨x0, hx0⟩ : ∃ x, val l = x := ⟨_, rfl⟩
 obtain ⟨y0, hy0⟩ : ∃ y, val l' = y := ⟨_, rfl⟩
 rw [hx0] at hvl h0
 rw [hy0] at hvl' h0'
 rw [hx0, hy0]
 have HX0 := Lib.hid hx0
 have HY0 := Lib.hid hy0
 have HVX := Lib.hid hvl
 have HVY := Lib.hid hvl'
 have hxp : 0 < x0 := by omega
 have hyp : 0 < y0 := by omega
 clear hx0 hy0 hvl hvl' h0 h0'
 go_enter Tryz.func133, Tryz.ntmps133
 go_wp2_with fail
 (with_reducible refine (r_trim_o _ A n c l ?_ ?_).mono ?_); (exact wa); (omega); rintro e w1 ⟨ga, na, ca, rfl, h1, hb1⟩
 rw [HX0.out] at h1
 go_wp2_with fail
 (with_reducible refine (r_trim_o _ A' n' c' l' ?_ ?_).mono ?_); (exact wb.belw hb1); (omega); rintro e w2 ⟨gb, nb, cb, rfl, h2, hb2⟩
 rw [HY0.out] at h2
 have hg : ga ≠ gb := by have := h1.lt; have := h2.base; omega
 have h1' : OwS w2 w.heap.size ga na ca (digs x0) := by
  refine ⟨⟨h1.1.1, ?_⟩, h1.2⟩
  rcases h1.1.2 with ⟨e, _⟩ | ⟨g', cap', cur, e, hb, hgg, r⟩
  ·cases e
  ·exact .inr ⟨g', cap', cur, e, hb, (hb2.block g' (lt_of_block hgg)).trans hgg, r⟩
 have h2' : OwS w2 w.heap.size gb nb cb (digs y0) := by
  refine ⟨⟨h2.1.1, ?_⟩, h2.2⟩
  rcases h2.1.2 with ⟨e, _⟩ | ⟨g', cap', cur, e, hb, r⟩
  ·cases e
  ·exact .inr ⟨g', cap', cur, e, Nat.le_trans hb1.size hb, r⟩
 have HT := Lib.hid (show Two w w2 N (.slice (some ⟨ga, 0, none⟩) na ca) (.slice (some ⟨gb, 0, none⟩) nb cb) x0 y0 from ⟨ga, na, ca, gb, nb, cb, rfl, rfl, h1', h2', hg, hb1.trans (hb2.mono hb1.size), HVX.out, HVY.out⟩)
 have ea : ((na : Int) == 0) = false := by have := own_pos h1 hxp; simp; omega
 have eb : ((nb : Int) == 0) = false := by have := own_pos h2 hyp; simp; omega
 clear h1 h2 h1' h2' hb1 hb2 hg
 go_wp2_with fail
 go_loopw [0, 1, 5] (fun va vb tv wr => ∃ (x y t : Nat), Two w wr N va vb x y ∧ tv = .int .i64 (t : Nat) ∧ 0 < x ∧ 0 < y ∧ x0 = 2 ^ t * x ∧ y0 = 2 ^ t * y) (fun va _ _ wr => valOf wr va)
 case atStart => exact ⟨x0, y0, 0, HT.out, rfl, hxp, hyp, by simp, by simp⟩
 case round =>
  obtain ⟨x, y, t, hT, rfl, hx, hy, hex, hey⟩ := hrel
  obtain ⟨ga, na, ca, gb, nb, cb, rfl, rfl⟩ := hT.form
  have HT := Lib.hid hT
  have hca := own_head hT.at_.1 hx
  have hcb := own_head hT.at_.2.1 hy
  have hna := own_pos hT.at_.1 hx
  have hnb := own_pos hT.at_.2.1 hy
  have hnaN := own_len hT.at_.1 hT.at_.2.2.2.2.1
  have hnbN := own_len hT.at_.2.1 hT.at_.2.2.2.2.2
  obtain ⟨p, hp⟩ : ∃ p, x % 4294967296 = p := ⟨_, rfl⟩
  obtain ⟨q, hq⟩ : ∃ q, y % 4294967296 = q := ⟨_, rfl⟩
  rw [hp] at hca
  rw [hq] at hcb
  have hp1 : p < 4294967296 := by omega
  have hq1 : q < 4294967296 := by omega
  have hpx : x % 2 = p % 2 := by omega
  have hqy : y % 2 = q % 2 := by omega
  have ht : t < 32 * N := two_bound hex hx HVX.out
  have HE := Lib.hid (And.intro hex hey)
  have HP := Lib.hid (And.intro hpx hqy)
  clear hex hey hp hq hpx hqy hT
  by_cases hpe : p % 2 = 0 ∧ q % 2 = 0
  ·have ea := even_u32 hp1 hpe.1
   have eb := even_u32 hq1 hpe.2
   have HPE := Lib.hid hpe
   clear hpe
   go_wp2_with fail
   (with_reducible refine (r_halve_o _ w.heap.size ga na ca (digs x) ?_ ?_).mono ?_); (exact HT.out.at_.1); (omega); rintro e w1 ⟨k1, rfl, o1, hon1⟩
   have HT1 := Lib.hid (HT.out.left o1.of_digs hon1 (Nat.div_le_self _ _))
   clear o1 hon1 hca hcb
   go_wp2_with fail
   (with_reducible refine (r_halve_o _ w.heap.size gb nb cb (digs y) ?_ ?_).mono ?_); (exact HT1.out.at_.2.1); (omega); rintro e w2 ⟨k2, rfl, o2, hon2⟩
   have HT2 := Lib.hid (HT1.out.swap.left o2.of_digs hon2 (Nat.div_le_self _ _)).swap
   clear o2 hon2
   go_wp2_with fail
   go_roundw
   case rel =>
    have h1 : x = 2 * (x / 2) := by have := HP.out.1; have := HPE.out.1; omega
    have h2 : y = 2 * (y / 2) := by have := HP.out.2; have := HPE.out.2; omega
    exact ⟨x / 2, y / 2, t + 1, HT2.out, by go_num, by omega, by omega, by rw [HE.out.1, Nat.pow_succ, Nat.mul_assoc, ← h1], by rw [HE.out.2, Nat.pow_succ, Nat.mul_assoc, ← h2]⟩
   case measure =>
    rw [own_val HT2.out.at_.1, own_val HT.out.at_.1]
    omega
  ·have hGo : Nat.gcd x y % 2 = 1 := gcd_odd (by intro h; exact hpe ⟨by have := HP.out.1; omega, by have := HP.out.2; omega⟩)
   obtain ⟨G, hG⟩ : ∃ G, Nat.gcd x y = G := ⟨_, rfl⟩
   rw [hG] at hGo
   have HG := Lib.hid (And.intro hG hGo)
   have hGp : 0 < G := by omega
   clear hG hGo
   rcases (show p % 2 = 1 ∨ (p % 2 = 0 ∧ q % 2 = 1) by omega) with h1 | ⟨h1, h2⟩
   ·have ea := odd_u32 hp1 h1
    clear hpe h1
    go_wp2_with fail
    clear ea
    try clear eb
    have e5 : 0 < nb := hnb
    clear hca hcb hp1 hq1 hna hnb hnaN hnbN
    go_loopw [0, 1] (fun va vb wr => ∃ (u v : Nat), Two w wr N va vb u v ∧ 0 < v ∧ Nat.gcd u v = G) (fun va vb wr => valOf wr va + valOf wr vb)
    case atStart => exact ⟨x, y, HT.out, hy, HG.out.1⟩
    case round =>
     rename_i wr2
     obtain ⟨u, v, hT2, hv, hgu⟩ := hrel
     obtain ⟨ga2, na2, ca2, gb2, nb2, cb2, rfl, rfl⟩ := hT2.form
     have HT2 := Lib.hid hT2
     have HGU := Lib.hid hgu
     clear hT2 hgu
     by_cases hu : u = 0
     ·subst hu
      have e0 : na2 = 0 := by rw [HT2.out.at_.1.len, digs_zero]; rfl
      subst e0
      have HVG := Lib.hid (show v = G by have := HGU.out; simpa using this)
      go_wp2_with fail
      go_loopw [1, 65] (fun vb iv wr => ∃ (j : Nat) (B : Option Addr) (m cc : Nat), vb = .slice B m cc ∧ Wd wr B m cc (digs (2 ^ j * G)) ∧ m ≤ N ∧ iv = .int .i64 (j : Nat) ∧ j ≤ t ∧ Below w.heap.size w wr) (fun _ iv _ => t - (intOf iv).toNat)
      case atStart =>
       have := HVG.out
       subst this
       exact ⟨0, _, _, _, rfl, by simpa using HT2.out.at_.2.1.toWd, own_len HT2.out.at_.2.1 HT2.out.at_.2.2.2.2.2, rfl, Nat.zero_le _, HT2.out.at_.2.2.2.1⟩
      case round =>
       obtain ⟨j, B, m, cc, rfl, hw, hm, rfl, hj, hbl⟩ := hrel
       have HW := Lib.hid hw
       have HB := Lib.hid hbl
       clear hw hbl
       by_cases hlt : j < t
       ·go_wp2_with fail
        (with_reducible refine (r_plus_c _ B m cc (digs (2 ^ j * G)) ?_ ?_ B m cc (digs (2 ^ j * G)) ?_ ?_).mono ?_); (exact HW.out); (omega); (exact HW.out); (omega); rintro e w4 ⟨B', m', cc', rfl, h4, hb4⟩
        have hz : val (digs (2 ^ j * G)) + val (digs (2 ^ j * G)) = 2 ^ (j + 1) * G := by rw [val_digs, Nat.pow_succ]; grind
        rw [hz] at h4
        have HZ := Lib.hid hz
        have H4 := Lib.hid h4
        clear hz h4
        go_wp2_with fail
        go_roundw
        case rel =>
         refine ⟨j + 1, B', m', cc', rfl, H4.out, ?_, by go_num, by omega, HB.out.trans (hb4.mono HB.out.size)⟩
         rw [H4.out.2.1]
         refine length_digs_le (Nat.lt_of_le_of_lt ?_ HVX.out)
         rw [HE.out.1]
         refine Nat.le_trans (Nat.mul_le_mul_right G (Nat.pow_le_pow_right (by omega) (show j + 1 ≤ t by omega))) (Nat.mul_le_mul_left _ ?_)
         rw [← HG.out.1]; exact Nat.gcd_le_left _ hx
        case measure => simp [intOf]; omega
       ·have hjt : j = t := by omega
        subst hjt
        go_wp2
        go_ret
        refine ⟨B, m, cc, rfl, ?_, HB.out⟩
        rw [HE.out.1, HE.out.2, Nat.gcd_mul_left, HG.out.1]
        exact HW.out
     ·have hup : 0 < u := by omega
      have hnap := own_pos HT2.out.at_.1 hup
      go_wp2_with fail
      go_loopw [0] (fun va wr => ∃ (u' : Nat), Two w wr N va (.slice (some ⟨gb2, 0, none⟩) nb2 cb2) u' v ∧ 0 < u' ∧ Nat.gcd u' v = G ∧ u' ≤ u) (fun va wr => valOf wr va)
      case atStart => exact ⟨u, HT2.out, hup, HGU.out, Nat.le_refl _⟩
      case round =>
       rename_i wr3
       obtain ⟨u', hT3, hu', hgu3, hle3⟩ := hrel
       obtain ⟨ga3, na3, ca3, _, _, _, rfl, _⟩ := hT3.form
       have HT3 := Lib.hid hT3
       have HGU3 := Lib.hid hgu3
       have hc3 := own_head hT3.at_.1 hu'
       have hn3 := own_pos hT3.at_.1 hu'
       have hn3N := own_len hT3.at_.1 hT3.at_.2.2.2.2.1
       obtain ⟨p3, hp3⟩ : ∃ p, u' % 4294967296 = p := ⟨_, rfl⟩
       rw [hp3] at hc3
       have hp31 : p3 < 4294967296 := by omega
       have hpu : u' % 2 = p3 % 2 := by omega
       clear hT3 hgu3 hp3
       by_cases hpe3 : p3 % 2 = 0
       ·have ea3 := even_u32 hp31 hpe3
        have HU2 := Lib.hid (show u' % 2 = 0 by omega)
        clear hpe3 hpu
        go_wp2_with fail
        (with_reducible refine (r_halve_o _ w.heap.size ga3 na3 ca3 (digs u') ?_ ?_).mono ?_); (exact HT3.out.at_.1); (omega); rintro e w4 ⟨k4, rfl, o4, hon4⟩
        have HT4 := Lib.hid (HT3.out.left o4.of_digs hon4 (Nat.div_le_self _ _))
        clear o4 hon4 hc3
        go_wp2_with fail
        go_roundw
        case rel =>
         have := HU2.out
         exact ⟨u' / 2, HT4.out, by omega, gcd_half HGU3.out HG.out.2 this, by omega⟩
        case measure =>
         rw [own_val HT4.out.at_.1, own_val HT3.out.at_.1]
         have := HU2.out
         omega
       ·have ea3 := odd_u32 hp31 (show p3 % 2 = 1 by omega)
        clear hpe3 hpu
        go_wp2_with fail
        clear ea3 hc3
        go_loopw [1] (fun vb wr => ∃ (v' : Nat), Two w wr N (.slice (some ⟨ga3, 0, none⟩) na3 ca3) vb u' v' ∧ 0 < v' ∧ Nat.gcd u' v' = G ∧ v' ≤ v) (fun vb wr => valOf wr vb)
        case atStart => exact ⟨v, HT3.out, hv, HGU3.out, Nat.le_refl _⟩
        case round =>
         rename_i wr5
         obtain ⟨v', hT5, hv', hgu5, hle5⟩ := hrel
         obtain ⟨_, _, _, gb5, nb5, cb5, _, rfl⟩ := hT5.form
         have HT5 := Lib.hid hT5
         have HGU5 := Lib.hid hgu5
         have hc5 := own_head hT5.at_.2.1 hv'
         have hn5 := own_pos hT5.at_.2.1 hv'
         have hn5N := own_len hT5.at_.2.1 hT5.at_.2.2.2.2.2
         obtain ⟨p5, hp5⟩ : ∃ p, v' % 4294967296 = p := ⟨_, rfl⟩
         rw [hp5] at hc5
         have hp51 : p5 < 4294967296 := by omega
         have hpv : v' % 2 = p5 % 2 := by omega
         clear hT5 hgu5 hp5
         by_cases hpe5 : p5 % 2 = 0
         ·have ea5 := even_u32 hp51 hpe5
          have HU2 := Lib.hid (show v' % 2 = 0 by omega)
          clear hpe5 hpv
          go_wp2_with fail
          (with_reducible refine (r_halve_o _ w.heap.size gb5 nb5 cb5 (digs v') ?_ ?_).mono ?_); (exact HT5.out.at_.2.1); (omega); rintro e w6 ⟨k6, rfl, o6, hon6⟩
          have HT6 := Lib.hid (HT5.out.swap.left o6.of_digs hon6 (Nat.div_le_self _ _)).swap
          clear o6 hon6 hc5
          go_wp2_with fail
          go_roundw
          case rel =>
           have := HU2.out
           exact ⟨v' / 2, HT6.out, by omega, by rw [Nat.gcd_comm]; exact gcd_half (by rw [Nat.gcd_comm]; exact HGU5.out) HG.out.2 this, by omega⟩
          case measure =>
           rw [own_val HT6.out.at_.2.1, own_val HT5.out.at_.2.1]
           have := HU2.out
           omega
         ·have ea5 := odd_u32 hp51 (show p5 % 2 = 1 by omega)
          clear hpe5 hpv
          go_wp2_with fail
          clear ea5 hc5
          (with_reducible refine (r_compare_c _ (some ⟨ga3, 0, none⟩) na3 ca3 (digs u') ?_ ?_ (some ⟨gb5, 0, none⟩) nb5 cb5 (digs v') ?_ ?_).mono ?_); (exact HT5.out.at_.1.toWd); (omega); (exact HT5.out.at_.2.1.toWd); (omega); rintro e w6 ⟨rfl, hb6⟩
          have HT6 := Lib.hid (HT5.out.belw hb6)
          clear hb6
          rw [val_digs, val_digs]
          by_cases hlt : u' < v'
          ·rw [show cmpN u' v' = -1 by unfold cmpN; rw [if_pos hlt]]
           have HLE := Lib.hid (Nat.le_of_lt hlt)
           clear hlt
           go_wp2_with fail
           (with_reducible refine (r_take_o _ w.heap.size gb5 nb5 cb5 (digs v') ?_ ?_ (some ⟨ga3, 0, none⟩) na3 ca3 (digs u') ?_ ?_ ?_ ?_).mono ?_); (exact HT6.out.at_.2.1); (omega); (exact HT6.out.at_.1.toWd); (intro ad e; injection e with e; subst e; exact HT6.out.at_.2.2.1); (rw [HT6.out.at_.2.1.len, HT6.out.at_.1.len]; exact digs_len_mono HLE.out); (rw [val_digs, val_digs]; exact HLE.out); rintro e w7 ⟨L, rfl, o7, hv7, hon7⟩
           rw [val_digs, val_digs] at hv7
           have HV7 := Lib.hid hv7
           have HO7 := Lib.hid o7
           have HON7 := Lib.hid hon7
           clear hv7 o7 hon7
           go_wp2_with fail
           (with_reducible refine (r_cut_o _ w.heap.size gb5 nb5 cb5 L ?_ ?_).mono ?_); (exact HO7.out); (omega); rintro e w8 ⟨k8, rfl, o8, rfl⟩
           rw [HV7.out] at o8
           have HT8 := Lib.hid (HT6.out.swap.left o8 HON7.out (Nat.sub_le _ _))
           clear o8
           go_wp2_with fail
           go_roundw
           case rel => exact ⟨v' - u', u', HT8.out, hu', by rw [gcd_sub HLE.out]; rw [Nat.gcd_comm]; exact HGU5.out⟩
           case measure =>
            rw [own_val HT8.out.at_.1, own_val HT8.out.at_.2.1, own_val HT2.out.at_.1, own_val HT2.out.at_.2.1]
            have := HLE.out
            omega

          ·have hcn : decide (cmpN u' v' < 0) = false := by unfold cmpN; rw [if_neg hlt]; split <;> decide
           have HLE := Lib.hid (Nat.le_of_not_lt hlt)
           obtain ⟨cm, hcm⟩ : ∃ cm, cmpN u' v' = cm := ⟨_, rfl⟩
           rw [hcm] at hcn ⊢
           clear hlt hcm
           go_wp2_with fail
           (with_reducible refine (r_take_o _ w.heap.size ga3 na3 ca3 (digs u') ?_ ?_ (some ⟨gb5, 0, none⟩) nb5 cb5 (digs v') ?_ ?_ ?_ ?_).mono ?_); (exact HT6.out.at_.1); (omega); (exact HT6.out.at_.2.1.toWd); (intro ad e; injection e with e; subst e; exact Ne.symm HT6.out.at_.2.2.1); (rw [HT6.out.at_.1.len, HT6.out.at_.2.1.len]; exact digs_len_mono HLE.out); (rw [val_digs, val_digs]; exact HLE.out); rintro e w7 ⟨L, rfl, o7, hv7, hon7⟩
           rw [val_digs, val_digs] at hv7
           have HV7 := Lib.hid hv7
           have HO7 := Lib.hid o7
           have HON7 := Lib.hid hon7
           clear hv7 o7 hon7
           go_wp2_with fail
           (with_reducible refine (r_cut_o _ w.heap.size ga3 na3 ca3 L ?_ ?_).mono ?_); (exact HO7.out); (omega); rintro e w8 ⟨k8, rfl, o8, rfl⟩
           rw [HV7.out] at o8
           have HT8 := Lib.hid (HT6.out.left o8 HON7.out (Nat.sub_le _ _))
           clear o8
           go_wp2_with fail
           go_roundw
           case rel => exact ⟨u' - v', v', HT8.out, hv', by rw [gcd_sub HLE.out]; exact HGU5.out⟩
           case measure =>
            rw [own_val HT8.out.at_.1, own_val HT8.out.at_.2.1, own_val HT2.out.at_.1, own_val HT2.out.at_.2.1]
            have := HLE.out
            omega


   ·have ea := even_u32 hp1 h1
    have eb := odd_u32 hq1 h2
    clear h2
    clear hpe h1
    go_wp2_with fail
    clear ea
    try clear eb
    have e5 : 0 < nb := hnb
    clear hca hcb hp1 hq1 hna hnb hnaN hnbN
    go_loopw [0, 1] (fun va vb wr => ∃ (u v : Nat), Two w wr N va vb u v ∧ 0 < v ∧ Nat.gcd u v = G) (fun va vb wr => valOf wr va + valOf wr vb)
    case atStart => exact ⟨x, y, HT.out, hy, HG.out.1⟩
    case round =>
     rename_i wr2
     obtain ⟨u, v, hT2, hv, hgu⟩ := hrel
     obtain ⟨ga2, na2, ca2, gb2, nb2, cb2, rfl, rfl⟩ := hT2.form
     have HT2 := Lib.hid hT2
     have HGU := Lib.hid hgu
     clear hT2 hgu
     by_cases hu : u = 0
     ·subst hu
      have e0 : na2 = 0 := by rw [HT2.out.at_.1.len, digs_zero]; rfl
      subst e0
      have HVG := Lib.hid (show v = G by have := HGU.out; simpa using this)
      go_wp2_with fail
      go_loopw [1, 65] (fun vb iv wr => ∃ (j : Nat) (B : Option Addr) (m cc : Nat), vb = .slice B m cc ∧ Wd wr B m cc (digs (2 ^ j * G)) ∧ m ≤ N ∧ iv = .int .i64 (j : Nat) ∧ j ≤ t ∧ Below w.heap.size w wr) (fun _ iv _ => t - (intOf iv).toNat)
      case atStart =>
       have := HVG.out
       subst this
       exact ⟨0, _, _, _, rfl, by simpa using HT2.out.at_.2.1.toWd, own_len HT2.out.at_.2.1 HT2.out.at_.2.2.2.2.2, rfl, Nat.zero_le _, HT2.out.at_.2.2.2.1⟩
      case round =>
       obtain ⟨j, B, m, cc, rfl, hw, hm, rfl, hj, hbl⟩ := hrel
       have HW := Lib.hid hw
       have HB := Lib.hid hbl
       clear hw hbl
       by_cases hlt : j < t
       ·go_wp2_with fail
        (with_reducible refine (r_plus_c _ B m cc (digs (2 ^ j * G)) ?_ ?_ B m cc (digs (2 ^ j * G)) ?_ ?_).mono ?_); (exact HW.out); (omega); (exact HW.out); (omega); rintro e w4 ⟨B', m', cc', rfl, h4, hb4⟩
        have hz : val (digs (2 ^ j * G)) + val (digs (2 ^ j * G)) = 2 ^ (j + 1) * G := by rw [val_digs, Nat.pow_succ]; grind
        rw [hz] at h4
        have HZ := Lib.hid hz
        have H4 := Lib.hid h4
        clear hz h4
        go_wp2_with fail
        go_roundw
        case rel =>
         refine ⟨j + 1, B', m', cc', rfl, H4.out, ?_, by go_num, by omega, HB.out.trans (hb4.mono HB.out.size)⟩
         rw [H4.out.2.1]
         refine length_digs_le (Nat.lt_of_le_of_lt ?_ HVX.out)
         rw [HE.out.1]
         refine Nat.le_trans (Nat.mul_le_mul_right G (Nat.pow_le_pow_right (by omega) (show j + 1 ≤ t by omega))) (Nat.mul_le_mul_left _ ?_)
         rw [← HG.out.1]; exact Nat.gcd_le_left _ hx
        case measure => simp [intOf]; omega
       ·have hjt : j = t := by omega
        subst hjt
        go_wp2
        go_ret
        refine ⟨B, m, cc, rfl, ?_, HB.out⟩
        rw [HE.out.1, HE.out.2, Nat.gcd_mul_left, HG.out.1]
        exact HW.out
     ·have hup : 0 < u := by omega
      have hnap := own_pos HT2.out.at_.1 hup
      go_wp2_with fail
      go_loopw [0] (fun va wr => ∃ (u' : Nat), Two w wr N va (.slice (some ⟨gb2, 0, none⟩) nb2 cb2) u' v ∧ 0 < u' ∧ Nat.gcd u' v = G ∧ u' ≤ u) (fun va wr => valOf wr va)
      case atStart => exact ⟨u, HT2.out, hup, HGU.out, Nat.le_refl _⟩
      case round =>
       rename_i wr3
       obtain ⟨u', hT3, hu', hgu3, hle3⟩ := hrel
       obtain ⟨ga3, na3, ca3, _, _, _, rfl, _⟩ := hT3.form
       have HT3 := Lib.hid hT3
       have HGU3 := Lib.hid hgu3
       have hc3 := own_head hT3.at_.1 hu'
       have hn3 := own_pos hT3.at_.1 hu'
       have hn3N := own_len hT3.at_.1 hT3.at_.2.2.2.2.1
       obtain ⟨p3, hp3⟩ : ∃ p, u' % 4294967296 = p := ⟨_, rfl⟩
       rw [hp3] at hc3
       have hp31 : p3 < 4294967296 := by omega
       have hpu : u' % 2 = p3 % 2 := by omega
       clear hT3 hgu3 hp3
       by_cases hpe3 : p3 % 2 = 0
       ·have ea3 := even_u32 hp31 hpe3
        have HU2 := Lib.hid (show u' % 2 = 0 by omega)
        clear hpe3 hpu
        go_wp2_with fail
        (with_reducible refine (r_halve_o _ w.heap.size ga3 na3 ca3 (digs u') ?_ ?_).mono ?_); (exact HT3.out.at_.1); (omega); rintro e w4 ⟨k4, rfl, o4, hon4⟩
        have HT4 := Lib.hid (HT3.out.left o4.of_digs hon4 (Nat.div_le_self _ _))
        clear o4 hon4 hc3
        go_wp2_with fail
        go_roundw
        case rel =>
         have := HU2.out
         exact ⟨u' / 2, HT4.out, by omega, gcd_half HGU3.out HG.out.2 this, by omega⟩
        case measure =>
         rw [own_val HT4.out.at_.1, own_val HT3.out.at_.1]
         have := HU2.out
         omega
       ·have ea3 := odd_u32 hp31 (show p3 % 2 = 1 by omega)
        clear hpe3 hpu
        go_wp2_with fail
        clear ea3 hc3
        go_loopw [1] (fun vb wr => ∃ (v' : Nat), Two w wr N (.slice (some ⟨ga3, 0, none⟩) na3 ca3) vb u' v' ∧ 0 < v' ∧ Nat.gcd u' v' = G ∧ v' ≤ v) (fun vb wr => valOf wr vb)
        case atStart => exact ⟨v, HT3.out, hv, HGU3.out, Nat.le_refl _⟩
        case round =>
         rename_i wr5
         obtain ⟨v', hT5, hv', hgu5, hle5⟩ := hrel
         obtain ⟨_, _, _, gb5, nb5, cb5, _, rfl⟩ := hT5.form
         have HT5 := Lib.hid hT5
         have HGU5 := Lib.hid hgu5
         have hc5 := own_head hT5.at_.2.1 hv'
         have hn5 := own_pos hT5.at_.2.1 hv'
         have hn5N := own_len hT5.at_.2.1 hT5.at_.2.2.2.2.2
         obtain ⟨p5, hp5⟩ : ∃ p, v' % 4294967296 = p := ⟨_, rfl⟩
         rw [hp5] at hc5
         have hp51 : p5 < 4294967296 := by omega
         have hpv : v' % 2 = p5 % 2 := by omega
         clear hT5 hgu5 hp5
         by_cases hpe5 : p5 % 2 = 0
         ·have ea5 := even_u32 hp51 hpe5
          have HU2 := Lib.hid (show v' % 2 = 0 by omega)
          clear hpe5 hpv
          go_wp2_with fail
          (with_reducible refine (r_halve_o _ w.heap.size gb5 nb5 cb5 (digs v') ?_ ?_).mono ?_); (exact HT5.out.at_.2.1); (omega); rintro e w6 ⟨k6, rfl, o6, hon6⟩
          have HT6 := Lib.hid (HT5.out.swap.left o6.of_digs hon6 (Nat.div_le_self _ _)).swap
          clear o6 hon6 hc5
          go_wp2_with fail
          go_roundw
          case rel =>
           have := HU2.out
           exact ⟨v' / 2, HT6.out, by omega, by rw [Nat.gcd_comm]; exact gcd_half (by rw [Nat.gcd_comm]; exact HGU5.out) HG.out.2 this, by omega⟩
          case measure =>
           rw [own_val HT6.out.at_.2.1, own_val HT5.out.at_.2.1]
           have := HU2.out
           omega
         ·have ea5 := odd_u32 hp51 (show p5 % 2 = 1 by omega)
          clear hpe5 hpv
          go_wp2_with fail
          clear ea5 hc5
          (with_reducible refine (r_compare_c _ (some ⟨ga3, 0, none⟩) na3 ca3 (digs u') ?_ ?_ (some ⟨gb5, 0, none⟩) nb5 cb5 (digs v') ?_ ?_).mono ?_); (exact HT5.out.at_.1.toWd); (omega); (exact HT5.out.at_.2.1.toWd); (omega); rintro e w6 ⟨rfl, hb6⟩
          have HT6 := Lib.hid (HT5.out.belw hb6)
          clear hb6
          rw [val_digs, val_digs]
          by_cases hlt : u' < v'
          ·rw [show cmpN u' v' = -1 by unfold cmpN; rw [if_pos hlt]]
           have HLE := Lib.hid (Nat.le_of_lt hlt)
           clear hlt
           go_wp2_with fail
           (with_reducible refine (r_take_o _ w.heap.size gb5 nb5 cb5 (digs v') ?_ ?_ (some ⟨ga3, 0, none⟩) na3 ca3 (digs u') ?_ ?_ ?_ ?_).mono ?_); (exact HT6.out.at_.2.1); (omega); (exact HT6.out.at_.1.toWd); (intro ad e; injection e with e; subst e; exact HT6.out.at_.2.2.1); (rw [HT6.out.at_.2.1.len, HT6.out.at_.1.len]; exact digs_len_mono HLE.out); (rw [val_digs, val_digs]; exact HLE.out); rintro e w7 ⟨L, rfl, o7, hv7, hon7⟩
           rw [val_digs, val_digs] at hv7
           have HV7 := Lib.hid hv7
           have HO7 := Lib.hid o7
           have HON7 := Lib.hid hon7
           clear hv7 o7 hon7
           go_wp2_with fail
           (with_reducible refine (r_cut_o _ w.heap.size gb5 nb5 cb5 L ?_ ?_).mono ?_); (exact HO7.out); (omega); rintro e w8 ⟨k8, rfl, o8, rfl⟩
           rw [HV7.out] at o8
           have HT8 := Lib.hid (HT6.out.swap.left o8 HON7.out (Nat.sub_le _ _))
           clear o8
           go_wp2_with fail
           go_roundw
           case rel => exact ⟨v' - u', u', HT8.out, hu', by rw [gcd_sub HLE.out]; rw [Nat.gcd_comm]; exact HGU5.out⟩
           case measure =>
            rw [own_val HT8.out.at_.1, own_val HT8.out.at_.2.1, own_val HT2.out.at_.1, own_val HT2.out.at_.2.1]
            have := HLE.out
            omega

          ·have hcn : decide (cmpN u' v' < 0) = false := by unfold cmpN; rw [if_neg hlt]; split <;> decide
           have HLE := Lib.hid (Nat.le_of_not_lt hlt)
           obtain ⟨cm, hcm⟩ : ∃ cm, cmpN u' v' = cm := ⟨_, rfl⟩
           rw [hcm] at hcn ⊢
           clear hlt hcm
           go_wp2_with fail
           (with_reducible refine (r_take_o _ w.heap.size ga3 na3 ca3 (digs u') ?_ ?_ (some ⟨gb5, 0, none⟩) nb5 cb5 (digs v') ?_ ?_ ?_ ?_).mono ?_); (exact HT6.out.at_.1); (omega); (exact HT6.out.at_.2.1.toWd); (intro ad e; injection e with e; subst e; exact Ne.symm HT6.out.at_.2.2.1); (rw [HT6.out.at_.1.len, HT6.out.at_.2.1.len]; exact digs_len_mono HLE.out); (rw [val_digs, val_digs]; exact HLE.out); rintro e w7 ⟨L, rfl, o7, hv7, hon7⟩
           rw [val_digs, val_digs] at hv7
           have HV7 := Lib.hid hv7
           have HO7 := Lib.hid o7
           have HON7 := Lib.hid hon7
           clear hv7 o7 hon7
           go_wp2_with fail
           (with_reducible refine (r_cut_o _ w.heap.size ga3 na3 ca3 L ?_ ?_).mono ?_); (exact HO7.out); (omega); rintro e w8 ⟨k8, rfl, o8, rfl⟩
           rw [HV7.out] at o8
           have HT8 := Lib.hid (HT6.out.left o8 HON7.out (Nat.sub_le _ _))
           clear o8
           go_wp2_with fail
           go_roundw
           case rel => exact ⟨u' - v', v', HT8.out, hv', by rw [gcd_sub HLE.out]; exact HGU5.out⟩
           case measure =>
            rw [own_val HT8.out.at_.1, own_val HT8.out.at_.2.1, own_val HT2.out.at_.1, own_val HT2.out.at_.2.1]
            have := HLE.out
            omega


end Go.Proofs.YtianjkiakkclgaaGreatDoor

/- Walks: the reference's greatest common divisor, of any lists. -/
namespace Go.Proofs.YtianjkiakkclgaaGreatDoor
open Go Go.RowKit Bn
attribute [local go_sem ↓] Go.wp_at_zero Go.wp_at_succ
theorem r_gcd_z (w : World) (A n c l) (wa : Wd w A n c l) (hn : n ≤ 1099511627000) (A' n' c' l') (wb : Wd w A' n' c' l') (hn' : n' ≤ 1099511627000) (h0 : val l = 0 ∨ val l' = 0) :
  Calls Tryz.prog 133 #[.slice A n c, .slice A' n' c'] w (RetL w (digs (Nat.gcd (val l) (val l')))) := by
 have H0 := Lib.hid h0
 clear h0
 go_enter Tryz.func133, Tryz.ntmps133
 go_wp2_with fail
 (with_reducible refine (r_trim_o _ A n c l ?_ ?_).mono ?_); (exact wa); (omega); rintro e w1 ⟨ga, na, ca, rfl, h1, hb1⟩
 go_wp2_with fail
 (with_reducible refine (r_trim_o _ A' n' c' l' ?_ ?_).mono ?_); (exact wb.belw hb1); (omega); rintro e w2 ⟨gb, nb, cb, rfl, h2, hb2⟩
 have HB := Lib.hid (hb1.trans (hb2.mono hb1.size))
 have H1 := Lib.hid (h1.belw hb2)
 have H2 := Lib.hid h2
 have hna := h1.len
 have hnb := h2.len
 clear h1 h2 hb1 hb2
 by_cases hz : val l = 0
 ·have e : na = 0 := by rw [hna, hz, digs_zero]; rfl
  have HG := Lib.hid (show digs (Nat.gcd (val l) (val l')) = digs (val l') by rw [hz, Nat.gcd_zero_left])
  subst e
  clear hna hnb hz
  go_wp2_with fail
  go_ret
  exact ⟨_, _, _, rfl, by rw [HG.out]; exact H2.out.toWd, HB.out⟩
 ·have hz2 : val l' = 0 := H0.out.resolve_left hz
  have e : nb = 0 := by rw [hnb, hz2, digs_zero]; rfl
  have hp : 0 < na := by
   rw [hna]; rcases Nat.eq_zero_or_pos (digs (val l)).length with h | h
   ·exact absurd (digs_eq_nil.1 (List.eq_nil_of_length_eq_zero h)) hz
   ·exact h
  have e1 : ((na : Int) == 0) = false := by simp; omega
  have HG := Lib.hid (show digs (Nat.gcd (val l) (val l')) = digs (val l) by rw [hz2, Nat.gcd_zero_right])
  subst e
  clear hna hnb hz hz2
  go_wp2_with fail
  go_ret
  exact ⟨_, _, _, rfl, by rw [HG.out]; exact H1.out.toWd, HB.out⟩
theorem r_gcd_any (w : World) (A n c l) (wa : Wd w A n c l) (hn : n ≤ 1099511627000) (A' n' c' l') (wb : Wd w A' n' c' l') (hn' : n' ≤ 1099511627000) :
    Calls Tryz.prog 133 #[.slice A n c, .slice A' n' c'] w (RetL w (digs (Nat.gcd (val l) (val l')))) := by
  by_cases h : val l = 0
  · exact r_gcd_z w A n c l wa hn A' n' c' l' wb hn' (.inl h)
  · by_cases h' : val l' = 0
    · exact r_gcd_z w A n c l wa hn A' n' c' l' wb hn' (.inr h')
    · exact r_gcd_c w 1099511627000 (Nat.le_refl _) A n c l wa hn A' n' c' l' wb hn' h h'
end Go.Proofs.YtianjkiakkclgaaGreatDoor

/- Walks: the reference's Gcd. -/
namespace Go.Proofs.YtianjkiakkclgaaGreatDoor
open Go Go.RowKit Bn
attribute [local go_sem ↓] Go.wp_at_zero Go.wp_at_succ
theorem gcd_len {w w' : World} {A : Option Addr} {n c : Nat} {l : List Nat} {A' : Option Addr} {n' c' : Nat} {l' : List Nat} {N : Nat} (h : Wd w A n c l) (h' : Wd w' A' n' c' l') (hn : n ≤ N) (hn' : n' ≤ N) : (digs (Nat.gcd (val l) (val l'))).length ≤ N := length_digs_le (gcd_lt (h.vlt hn) (h'.vlt hn'))
theorem r_Gcd_C (w : World) (b : Bool) (A n c l) (wa : Wd w A n c l) (hn : n ≤ 1099511627000) (b' : Bool) (A' n' c' l') (wb : Wd w A' n' c' l') (hn' : n' ≤ 1099511627000) :
    Calls Tryz.prog 98 #[.agg #[.bool b, .slice A n c], .agg #[.bool b', .slice A' n' c']] w (RetW w (wh (Nat.gcd (WD.z ⟨b, l⟩).natAbs (WD.z ⟨b', l'⟩).natAbs : Nat))) := by
  have HL := Lib.hid wa.2.1
  have HL' := Lib.hid wb.2.1
  rw [z_nat, z_nat]
  go_enter Tryz.func98, Tryz.ntmps98
  go_wp2_with fail
  have b0 : Below w.heap.size w (((w.alloc (.cells #[.bool b, .slice A n c] 77)).alloc (.cells #[.bool b', .slice A' n' c'] 77)).alloc (.cells #[.bool false, .slice none 0 0] 77)) := ((((Below.refl _ _).alloc (Nat.le_refl _) _).alloc (by simp) _).alloc (by simp; omega) _)
  generalize hW0 : (((w.alloc (.cells #[.bool b, .slice A n c] 77)).alloc (.cells #[.bool b', .slice A' n' c'] 77)).alloc (.cells #[.bool false, .slice none 0 0] 77)) = W0 at b0 ⊢
  have c00 : W0.cell? ⟨w.heap.size, 0, none⟩ = some (.bool b) := by subst hW0; simp [go_sem]
  have f00 : W0.frozen? ⟨w.heap.size, 0, none⟩ = false := by subst hW0; simp [go_sem]
  have c01 : W0.cell? ⟨w.heap.size, 1, none⟩ = some (.slice A n c) := by subst hW0; simp [go_sem]
  have f01 : W0.frozen? ⟨w.heap.size, 1, none⟩ = false := by subst hW0; simp [go_sem]
  have c10 : W0.cell? ⟨w.heap.size + 1, 0, none⟩ = some (.bool b') := by subst hW0; simp [go_sem]
  have f10 : W0.frozen? ⟨w.heap.size + 1, 0, none⟩ = false := by subst hW0; simp [go_sem]
  have c11 : W0.cell? ⟨w.heap.size + 1, 1, none⟩ = some (.slice A' n' c') := by subst hW0; simp [go_sem]
  have f11 : W0.frozen? ⟨w.heap.size + 1, 1, none⟩ = false := by subst hW0; simp [go_sem]
  have c20 : W0.cell? ⟨w.heap.size + 1 + 1, 0, none⟩ = some (.bool false) := by subst hW0; simp [go_sem]
  have f20 : W0.frozen? ⟨w.heap.size + 1 + 1, 0, none⟩ = false := by subst hW0; simp [go_sem]
  have c21 : W0.cell? ⟨w.heap.size + 1 + 1, 1, none⟩ = some (.slice none 0 0) := by subst hW0; simp [go_sem]
  have f21 : W0.frozen? ⟨w.heap.size + 1 + 1, 1, none⟩ = false := by subst hW0; simp [go_sem]
  have x0 : Box W0 w.heap.size 77 := by subst hW0; exact ((boxAt _ _ _ (by simp)).alloc _).alloc _
  have x1 : Box W0 (w.heap.size + 1) 77 := by subst hW0; exact (boxAt _ _ _ (by simp)).alloc _
  have x2 : Box W0 (w.heap.size + 1 + 1) 77 := by subst hW0; exact boxAt _ _ _ (by simp)
  have hm0 : Made (w.heap.size + 1 + 1) (w.heap.size + 1 + 1 + 1) 2 W0 := by subst hW0; exact made1 (by simp)
  have hs0 : w.heap.size + 1 + 1 + 1 ≤ W0.heap.size := by subst hW0; simp
  clear hW0
  have wa := wa.belw b0
  have wb := wb.belw b0
  have r0 : Below W0.heap.size W0 W0 := brefl _
  have hRB : w.heap.size + 1 + 1 ≤ w.heap.size + 1 + 1 + 1 := by omega
  go_region_held3 (fun w' => Sees (w.heap.size + 1 + 1) W0 w') (first | exact Sees.of (Nat.le_trans hRB hs0) (by assumption) | exact Sees.of (Nat.le_trans hRB hs0) (below_drewN (by assumption) _) | exact (Sees.set (Sees.of (Nat.le_trans hRB hs0) (by assumption)) (by simp)) | exact (Sees.set (Sees.set (Sees.of (Nat.le_trans hRB hs0) (by assumption)) (by simp)) (by simp)))
    (first
      | (go_at_call 101; (with_reducible refine (r_mag_c _ b A n c l ?_ ?_).mono ?_); (exact wa); (omega); rintro e w1 ⟨A1, n1, c1, rfl, h1, hb1⟩; replace hb1 := bnext (below_drewN (brefl _) 1) hb1; have r1 := bnext r0 hb1; replace wa := wa.belw hb1; replace wb := wb.belw hb1)
      | (go_at_call 101; (with_reducible refine (r_mag_c _ b' A' n' c' l' ?_ ?_).mono ?_); (exact wb); (omega); rintro e w2 ⟨A2, n2, c2, rfl, h2, hb2⟩; have r2 := bnext r1 hb2; replace wa := wa.belw hb2; replace wb := wb.belw hb2; replace h1 := h1.belw hb2)
      | (go_at_call 133; (with_reducible refine (r_gcd_any _ A1 n1 c1 (WD.m ⟨b, l⟩) ?_ ?_ A2 n2 c2 (WD.m ⟨b', l'⟩) ?_ ?_).mono ?_); (exact h1); (exact h1.m_len (by rw [← HL.out]; exact hn)); (exact h2); (exact h2.m_len (by rw [← HL'.out]; exact hn')); rintro e w3 ⟨A3, n3, c3, rfl, h3, hb3⟩; have r3 := bnext r2 hb3; replace wa := wa.belw hb3; replace wb := wb.belw hb3; replace h1 := h1.belw hb3; replace h2 := h2.belw hb3)
      | (go_at_call 100; (with_reducible refine (r_form_e _ false A3 n3 c3 (digs (Nat.gcd (val (WD.m ⟨b, l⟩)) (val (WD.m ⟨b', l'⟩)))) (Nat.gcd (val (WD.m ⟨b, l⟩)) (val (WD.m ⟨b', l'⟩)) : Nat) ?_ ?_ ?_).mono ?_); (exact h3); (rw [h3.2.1]; exact gcd_len h1 h2 (Nat.le_trans (h1.m_len (by rw [← HL.out]; exact hn)) (by decide)) (Nat.le_trans (h2.m_len (by rw [← HL'.out]; exact hn')) (by decide))); (rw [val_digs]; rfl); rintro e w4 ⟨A4, n4, c4, rfl, h4, hb4⟩; have r4 := bnext r3 hb4; replace wa := wa.belw hb4; replace wb := wb.belw hb4; replace h1 := h1.belw hb4; replace h2 := h2.belw hb4; replace h3 := h3.belw hb4; obtain ⟨⟨sc, sf⟩, sr, sz⟩ := Seen.of (by omega) hs0 hm0 r4))
  clear hRB
  go_wp2_with fail
  refine bodyPost_ret (v := .agg #[.bool _, .slice A4 n4 c4]) (by simp [results, Tryz.results98, go_sem, sr]; rfl) rfl ?_
  have x := x2.below r4
  refine retW ?_ ?_ ?_
  · rfl
  · exact h4.keep (kp2 x (by decide) _ _ _ _)
  · exact ((b0.trans (r4.mono b0.size)).setCell (by dsimp only; omega) _).setCell (by dsimp only; omega) _
theorem r01_gcd (w : World) (b A n c z k) (h : IZ w b A n c z k) (b' A' n' c' z' k') (h' : IZ w b' A' n' c' z' k') (hk : k + k' ≤ 1000000000) : Calls Tryz.prog 98 #[.agg #[.bool b, .slice A n c], .agg #[.bool b', .slice A' n' c']] w (RetI w (Nat.gcd z.natAbs z'.natAbs : Nat) (k + k')) := by
  have hz := h.mono (Nat.le_add_right k k') |>.lt
  have hz' := h'.mono (Nat.le_add_left k' k) |>.lt
  obtain ⟨l, h1, rfl, h3⟩ := h
  obtain ⟨l', h1', rfl, h3'⟩ := h'
  exact (r_Gcd_C w b A n c l h1 (by omega) b' A' n' c' l' h1' (by omega)).mono fun _ _ r => r.i (by simpa using gcd_lt hz hz')
end Go.Proofs.YtianjkiakkclgaaGreatDoor

/- Walks: the reference: fractions, what is valid. -/
namespace Go.Proofs.YtianjkiakkclgaaGreatDoor
open Go Go.RowKit Bn
attribute [local go_sem ↓] Go.wp_at_zero Go.wp_at_succ
theorem g_one (w : World)  :
  Calls Tryz.prog 66 #[] w (RetI w 1 1) := by
 go_enter Tryz.func66, Tryz.ntmps66
 go_wp2_with fail
 (with_reducible refine (r01_of1 _ (1) ?_ ?_).mono ?_); (omega); (omega); rintro e w1 ⟨b1, A1, n1, c1, rfl, h1, hb1⟩
 have q1 := hb1.q1
 have x1a : Blk w1 w.heap.size 77 #[.bool false, .slice none 0 0] := (blkAt _ _ _ (by simp)).below hb1 (by simp)
 have bw1 := (brefl w).trans (q1.mono (brefl w).size)
 have lw1 := hb1.l1
 clear q1
 have cx1a := x1a.c2
 have fx1a := x1a.f2
 have lx1a := lts0 x1a.lt
 go_wp2_with fail
 refine bodyPost_ret (v := .agg #[.bool b1, .slice A1 n1 c1]) (by simp [results, Tryz.results66, go_sem, *] <;> trivial) rfl ?_
 exact ⟨b1, A1, n1, c1, rfl, h1.keep (((Kp.refl w1).sb w.heap.size 0 x1a.box (by decide) (.bool b1)).sb w.heap.size 1 (x1a.box.set ⟨w.heap.size, 0, none⟩ (.bool b1)) (by decide) (.slice A1 n1 c1)), ((bw1.sc w.heap.size 0 (by omega) (.bool b1)).sc w.heap.size 1 (by omega) (.slice A1 n1 c1))⟩
theorem r01_cmp_e (w : World) (b A n c z k) (h : IZ w b A n c z k) (b' A' n' c' z' k') (h' : IZ w b' A' n' c' z' k') (s : Int) (hs : cmpI z z' = s) (hk : k + k' ≤ 999999999) :
    Calls Tryz.prog 107 #[.agg #[.bool b, .slice A n c], .agg #[.bool b', .slice A' n' c']] w (RetV w (.int .i64 s)) := by subst hs; exact r01_cmp w b A n c z k h b' A' n' c' z' k' h' hk

def plainB (l : List Nat) : Bool := l != [] && last0 l
theorem plain_p {l : List Nat} (h : l ≠ []) : plainB l = last0 l := by unfold plainB; have : (l != []) = true := bne_iff_ne.2 h; rw [this]; rfl
theorem g_plain_e (w : World) (A : Option Addr) (n c : Nat) (l : List Nat) (v : Bool) (h : Wd w A n c l) (hv : plainB l = v) (hn : n ≤ 1000000000) :
  Calls Tryz.prog 109 #[.slice A n c] w (RetV w (.bool v)) := by
 have HL := Lib.hid h.2.1
 have HV := Lib.hid hv
 clear hv
 by_cases h0 : n = 0
 ·subst h0
  have hl : l = [] := List.eq_nil_of_length_eq_zero HL.out.symm
  have HE := Lib.hid (show v = false by rw [← HV.out, hl]; rfl)
  clear hl
  go_enter Tryz.func109, Tryz.ntmps109
  go_wp2
  go_ret
  exact retB HE.out.symm (Below.refl _ _)
 ·obtain ⟨g, o, rfl, hgl, hc⟩ := h.at2 (by omega)
  have hck := hc (n - 1) (by omega)
  have hlt := h.lt (n - 1)
  have hne : l ≠ [] := by rintro rfl; have := HL.out; simp at this; omega
  have he : v = (wd l (n - 1) != 0) := by rw [← HV.out, plain_p hne]; unfold last0; rw [← HL.out]
  have HE := Lib.hid he
  have hp : 0 < n := by omega
  clear hc h0 he hne
  generalize hgx : wd l (n - 1) = x at *
  clear hgx
  go_enter Tryz.func109, Tryz.ntmps109
  go_wp2
  go_ret
  refine retB ?_ (Below.refl _ _)
  rw [HE.out]
  by_cases hz : x = 0
  ·subst hz; rfl
  ·have h1 : (x != 0) = true := bne_iff_ne.2 hz
   have h2 : ((x : Int) != 0) = true := bne_iff_ne.2 (by omega)
   first | rw [h1, h2] | simp [hz]
theorem gok_0 {w : World} {b : Bool} {A : Option Addr} {n c : Nat} {D : Option Addr} {m e : Nat} {a : RD} {k : Nat} (h : QD w b A n c D m e a k) (h0 : 0 < n ∨ 0 < m) : a.ok = (plainB a.num && plainB a.den && Nat.gcd (val a.num) (val a.den) == 1) := by
  unfold RD.ok plainB
  rw [if_neg (by intro x; rcases h0 with h1 | h1; exact h.num_ne h1 x.1; exact h.den_ne_ h1 x.2)]
  cases (a.num != []) <;> cases (a.den != []) <;> cases (last0 a.num) <;> cases (last0 a.den) <;> simp
theorem plain_wd {l : List Nat} (h : plainB l = true) : WD.ok ⟨false, l⟩ = true := by
  unfold plainB at h
  have h1 : l ≠ [] := by rintro rfl; exact absurd h (by decide)
  rw [wdok_ h1]
  exact ((Bool.and_eq_true _ _).mp h).2
theorem g_valid_0 (w : World) (b A n c D m e a k) (h : QD w b A n c D m e a k) (hk : k ≤ 300000000) (h1 : n = 0) (h2 : m = 0) :
  Calls Tryz.prog 75 #[.agg #[.bool b, .slice A n c, .slice D m e]] w (RetV w (.bool a.ok)) := by
 have HR := Lib.hid (show a.ok = !b from ok_00 h h1 h2)
 have HK := Lib.hid hk
 subst h1 h2
 clear h hk
 go_enter Tryz.func75, Tryz.ntmps75
 go_wp2
 go_ret
 exact retB (by rw [HR.out]) ((Below.refl _ _).alloc (Nat.le_refl _) _)
theorem g_valid_z1 (w : World) (b A n c D m e a k) (h : QD w b A n c D m e a k) (hk : k ≤ 300000000) (h1 : n = 0) (h2 : 0 < m) (p1 : plainB a.num = false) :
  Calls Tryz.prog 75 #[.agg #[.bool b, .slice A n c, .slice D m e]] w (RetV w (.bool a.ok)) := by
 have HR := Lib.hid (show a.ok = false by rw [gok_0 h (.inr h2), p1]; simp)
 have HP1 := Lib.hid p1
 have e1 : ((n : Int) == 0) = true := by simp [h1]
 have e2 : ((m : Int) == 0) = false := by simp; omega
 have HK := Lib.hid hk
 clear h1 hk p1 h2
 go_enter Tryz.func75, Tryz.ntmps75
 go_wp2_with fail
 (with_reducible refine (g_plain_e _ A n c a.num false ?_ ?_ ?_).mono ?_); (exact h.2.1.belw ((Below.refl _ _).alloc (Nat.le_refl _) _)); (exact HP1.out); (have := h.2.2.2.1; have := HK.out; omega); rintro e w1 ⟨rfl, hb1⟩
 have q1 := hb1.q1
 replace h := h.belw q1
 have x1a : Blk w1 w.heap.size 24 #[.bool b, .slice A n c, .slice D m e] := (blkAt _ _ _ (by simp)).below hb1 (by simp)
 have bw1 := (brefl w).trans (q1.mono (brefl w).size)
 have lw1 := hb1.l1
 clear q1
 go_wp2_with fail
 go_ret
 exact retB HR.out.symm bw1
theorem g_valid_z2 (w : World) (b A n c D m e a k) (h : QD w b A n c D m e a k) (hk : k ≤ 300000000) (h1 : n = 0) (h2 : 0 < m) (p1 : plainB a.num = true) (p2 : plainB a.den = false) :
  Calls Tryz.prog 75 #[.agg #[.bool b, .slice A n c, .slice D m e]] w (RetV w (.bool a.ok)) := by
 have HR := Lib.hid (show a.ok = false by rw [gok_0 h (.inr h2), p1, p2]; simp)
 have HP1 := Lib.hid p1
 have HP2 := Lib.hid p2
 have e1 : ((n : Int) == 0) = true := by simp [h1]
 have e2 : ((m : Int) == 0) = false := by simp; omega
 have HK := Lib.hid hk
 clear h1 hk p1 h2 p2
 go_enter Tryz.func75, Tryz.ntmps75
 go_wp2_with fail
 (with_reducible refine (g_plain_e _ A n c a.num true ?_ ?_ ?_).mono ?_); (exact h.2.1.belw ((Below.refl _ _).alloc (Nat.le_refl _) _)); (exact HP1.out); (have := h.2.2.2.1; have := HK.out; omega); rintro e w1 ⟨rfl, hb1⟩
 have q1 := hb1.q1
 replace h := h.belw q1
 have x1a : Blk w1 w.heap.size 24 #[.bool b, .slice A n c, .slice D m e] := (blkAt _ _ _ (by simp)).below hb1 (by simp)
 have bw1 := (brefl w).trans (q1.mono (brefl w).size)
 have lw1 := hb1.l1
 clear q1
 have cx1a := x1a.c3
 have lx1a := lts0 x1a.lt
 go_wp2_with fail
 (with_reducible refine (g_plain_e _ D m e a.den false ?_ ?_ ?_).mono ?_); (exact h.2.2.1); (exact HP2.out); (have := h.2.2.2.2; have := HK.out; omega); rintro e w2 ⟨rfl, q2⟩
 clear cx1a lx1a
 replace h := h.belw q2
 replace x1a := x1a.b q2
 have bw2 := bw1.trans (q2.mono bw1.size)
 have lw2 := q2.size
 clear q2 bw1
 go_wp2_with fail
 go_ret
 exact retB HR.out.symm bw2
theorem g_valid_z3 (w : World) (b A n c D m e a k) (h : QD w b A n c D m e a k) (hk : k ≤ 300000000) (h1 : n = 0) (h2 : 0 < m) (p1 : plainB a.num = true) (p2 : plainB a.den = true) :
  Calls Tryz.prog 75 #[.agg #[.bool b, .slice A n c, .slice D m e]] w (RetV w (.bool a.ok)) := by
 have HR := Lib.hid (show a.ok = (Nat.gcd (val a.num) (val a.den) == 1) by rw [gok_0 h (.inr h2), p1, p2]; simp)
 have HP1 := Lib.hid p1
 have HP2 := Lib.hid p2
 have e1 : ((n : Int) == 0) = true := by simp [h1]
 have e2 : ((m : Int) == 0) = false := by simp; omega
 have HK := Lib.hid hk
 clear h1 hk p1 h2 p2
 go_enter Tryz.func75, Tryz.ntmps75
 go_wp2_with fail
 obtain ⟨s, hs⟩ : ∃ s, cmpI ((Nat.gcd ((val a.num : Int)).natAbs ((val a.den : Int)).natAbs : Nat)) 1 = s := ⟨_, rfl⟩
 have HC := Lib.hid hs
 clear hs
 have hN := h.num_z (plain_wd HP1.out)
 have hD := h.den_z (plain_wd HP2.out)
 (with_reducible refine (g_plain_e _ A n c a.num true ?_ ?_ ?_).mono ?_); (exact h.2.1.belw ((Below.refl _ _).alloc (Nat.le_refl _) _)); (exact HP1.out); (have := h.2.2.2.1; have := HK.out; omega); rintro e w1 ⟨rfl, hb1⟩
 have q1 := hb1.q1
 replace h := h.belw q1
 replace hN := hN.belw q1
 replace hD := hD.belw q1
 have x1a : Blk w1 w.heap.size 24 #[.bool b, .slice A n c, .slice D m e] := (blkAt _ _ _ (by simp)).below hb1 (by simp)
 have bw1 := (brefl w).trans (q1.mono (brefl w).size)
 have lw1 := hb1.l1
 clear q1
 obtain ⟨cx1aa, cx1ab, cx1ac⟩ := x1a.c3
 obtain ⟨lx1aa, lx1ab, lx1ac, lx1ad⟩ := lts0 x1a.lt
 go_wp2_with fail
 (with_reducible refine (g_plain_e _ D m e a.den true ?_ ?_ ?_).mono ?_); (exact h.2.2.1); (exact HP2.out); (have := h.2.2.2.2; have := HK.out; omega); rintro e w2 ⟨rfl, q2⟩
 clear cx1aa cx1ab cx1ac lx1aa lx1ab lx1ac lx1ad
 replace h := h.belw q2
 replace hN := hN.belw q2
 replace hD := hD.belw q2
 replace x1a := x1a.b q2
 have bw2 := bw1.trans (q2.mono bw1.size)
 have lw2 := q2.size
 clear q2 bw1
 obtain ⟨cx1aa, cx1ab, cx1ac⟩ := x1a.c3
 obtain ⟨lx1aa, lx1ab, lx1ac, lx1ad⟩ := lts0 x1a.lt
 go_wp2_with fail
 (with_reducible refine (r01_gcd _ false A n c ((val a.num : Int)) (k) ?_ false D m e ((val a.den : Int)) (k) ?_ ?_).mono ?_); (exact hN); (exact hD); (have := HK.out; omega); rintro e w3 ⟨b3, A3, n3, c3, rfl, h3, q3⟩
 clear cx1aa cx1ab cx1ac lx1aa lx1ab lx1ac lx1ad
 replace h := h.belw q3
 replace hN := hN.belw q3
 replace hD := hD.belw q3
 replace x1a := x1a.b q3
 have bw3 := bw2.trans (q3.mono bw2.size)
 have lw3 := q3.size
 clear q3 bw2
 go_wp2_with fail
 (with_reducible refine (g_one _).mono ?_); rintro e w4 ⟨b4, A4, n4, c4, rfl, h4, q4⟩
 replace h := h.belw q4
 replace hN := hN.belw q4
 replace hD := hD.belw q4
 replace h3 := h3.belw q4
 replace x1a := x1a.b q4
 have bw4 := bw3.trans (q4.mono bw3.size)
 have lw4 := q4.size
 clear q4 bw3
 go_wp2_with fail
 (with_reducible refine (r01_cmp_e _ b3 A3 n3 c3 ((Nat.gcd (((val a.num : Int))).natAbs (((val a.den : Int))).natAbs : Nat)) ((k) + (k)) ?_ b4 A4 n4 c4 (1) (1) ?_ s ?_ ?_).mono ?_); (exact h3.iz); (exact h4.iz); (exact HC.out); (have := HK.out; omega); rintro e w5 ⟨rfl, q5⟩
 replace h := h.belw q5
 replace hN := hN.belw q5
 replace hD := hD.belw q5
 replace h3 := h3.belw q5
 replace h4 := h4.belw q5
 replace x1a := x1a.b q5
 have bw5 := bw4.trans (q5.mono bw4.size)
 have lw5 := q5.size
 clear q5 bw4
 go_wp2_with fail
 go_ret
 exact retB (ok_last HC.out HR.out) bw5
theorem g_valid_p1 (w : World) (b A n c D m e a k) (h : QD w b A n c D m e a k) (hk : k ≤ 300000000) (h1 : 0 < n) (p1 : plainB a.num = false) :
  Calls Tryz.prog 75 #[.agg #[.bool b, .slice A n c, .slice D m e]] w (RetV w (.bool a.ok)) := by
 have HR := Lib.hid (show a.ok = false by rw [gok_0 h (.inl h1), p1]; simp)
 have HP1 := Lib.hid p1
 have e1 : ((n : Int) == 0) = false := by simp; omega
 have HK := Lib.hid hk
 clear h1 hk p1
 go_enter Tryz.func75, Tryz.ntmps75
 go_wp2_with fail
 (with_reducible refine (g_plain_e _ A n c a.num false ?_ ?_ ?_).mono ?_); (exact h.2.1.belw ((Below.refl _ _).alloc (Nat.le_refl _) _)); (exact HP1.out); (have := h.2.2.2.1; have := HK.out; omega); rintro e w1 ⟨rfl, hb1⟩
 have q1 := hb1.q1
 replace h := h.belw q1
 have x1a : Blk w1 w.heap.size 24 #[.bool b, .slice A n c, .slice D m e] := (blkAt _ _ _ (by simp)).below hb1 (by simp)
 have bw1 := (brefl w).trans (q1.mono (brefl w).size)
 have lw1 := hb1.l1
 clear q1
 go_wp2_with fail
 go_ret
 exact retB HR.out.symm bw1
theorem g_valid_p2 (w : World) (b A n c D m e a k) (h : QD w b A n c D m e a k) (hk : k ≤ 300000000) (h1 : 0 < n) (p1 : plainB a.num = true) (p2 : plainB a.den = false) :
  Calls Tryz.prog 75 #[.agg #[.bool b, .slice A n c, .slice D m e]] w (RetV w (.bool a.ok)) := by
 have HR := Lib.hid (show a.ok = false by rw [gok_0 h (.inl h1), p1, p2]; simp)
 have HP1 := Lib.hid p1
 have HP2 := Lib.hid p2
 have e1 : ((n : Int) == 0) = false := by simp; omega
 have HK := Lib.hid hk
 clear h1 hk p1 p2
 go_enter Tryz.func75, Tryz.ntmps75
 go_wp2_with fail
 (with_reducible refine (g_plain_e _ A n c a.num true ?_ ?_ ?_).mono ?_); (exact h.2.1.belw ((Below.refl _ _).alloc (Nat.le_refl _) _)); (exact HP1.out); (have := h.2.2.2.1; have := HK.out; omega); rintro e w1 ⟨rfl, hb1⟩
 have q1 := hb1.q1
 replace h := h.belw q1
 have x1a : Blk w1 w.heap.size 24 #[.bool b, .slice A n c, .slice D m e] := (blkAt _ _ _ (by simp)).below hb1 (by simp)
 have bw1 := (brefl w).trans (q1.mono (brefl w).size)
 have lw1 := hb1.l1
 clear q1
 have cx1a := x1a.c3
 have lx1a := lts0 x1a.lt
 go_wp2_with fail
 (with_reducible refine (g_plain_e _ D m e a.den false ?_ ?_ ?_).mono ?_); (exact h.2.2.1); (exact HP2.out); (have := h.2.2.2.2; have := HK.out; omega); rintro e w2 ⟨rfl, q2⟩
 clear cx1a lx1a
 replace h := h.belw q2
 replace x1a := x1a.b q2
 have bw2 := bw1.trans (q2.mono bw1.size)
 have lw2 := q2.size
 clear q2 bw1
 go_wp2_with fail
 go_ret
 exact retB HR.out.symm bw2
theorem g_valid_p3 (w : World) (b A n c D m e a k) (h : QD w b A n c D m e a k) (hk : k ≤ 300000000) (h1 : 0 < n) (p1 : plainB a.num = true) (p2 : plainB a.den = true) :
  Calls Tryz.prog 75 #[.agg #[.bool b, .slice A n c, .slice D m e]] w (RetV w (.bool a.ok)) := by
 have HR := Lib.hid (show a.ok = (Nat.gcd (val a.num) (val a.den) == 1) by rw [gok_0 h (.inl h1), p1, p2]; simp)
 have HP1 := Lib.hid p1
 have HP2 := Lib.hid p2
 have e1 : ((n : Int) == 0) = false := by simp; omega
 have HK := Lib.hid hk
 clear h1 hk p1 p2
 go_enter Tryz.func75, Tryz.ntmps75
 go_wp2_with fail
 obtain ⟨s, hs⟩ : ∃ s, cmpI ((Nat.gcd ((val a.num : Int)).natAbs ((val a.den : Int)).natAbs : Nat)) 1 = s := ⟨_, rfl⟩
 have HC := Lib.hid hs
 clear hs
 have hN := h.num_z (plain_wd HP1.out)
 have hD := h.den_z (plain_wd HP2.out)
 (with_reducible refine (g_plain_e _ A n c a.num true ?_ ?_ ?_).mono ?_); (exact h.2.1.belw ((Below.refl _ _).alloc (Nat.le_refl _) _)); (exact HP1.out); (have := h.2.2.2.1; have := HK.out; omega); rintro e w1 ⟨rfl, hb1⟩
 have q1 := hb1.q1
 replace h := h.belw q1
 replace hN := hN.belw q1
 replace hD := hD.belw q1
 have x1a : Blk w1 w.heap.size 24 #[.bool b, .slice A n c, .slice D m e] := (blkAt _ _ _ (by simp)).below hb1 (by simp)
 have bw1 := (brefl w).trans (q1.mono (brefl w).size)
 have lw1 := hb1.l1
 clear q1
 obtain ⟨cx1aa, cx1ab, cx1ac⟩ := x1a.c3
 obtain ⟨lx1aa, lx1ab, lx1ac, lx1ad⟩ := lts0 x1a.lt
 go_wp2_with fail
 (with_reducible refine (g_plain_e _ D m e a.den true ?_ ?_ ?_).mono ?_); (exact h.2.2.1); (exact HP2.out); (have := h.2.2.2.2; have := HK.out; omega); rintro e w2 ⟨rfl, q2⟩
 clear cx1aa cx1ab cx1ac lx1aa lx1ab lx1ac lx1ad
 replace h := h.belw q2
 replace hN := hN.belw q2
 replace hD := hD.belw q2
 replace x1a := x1a.b q2
 have bw2 := bw1.trans (q2.mono bw1.size)
 have lw2 := q2.size
 clear q2 bw1
 obtain ⟨cx1aa, cx1ab, cx1ac⟩ := x1a.c3
 obtain ⟨lx1aa, lx1ab, lx1ac, lx1ad⟩ := lts0 x1a.lt
 go_wp2_with fail
 (with_reducible refine (r01_gcd _ false A n c ((val a.num : Int)) (k) ?_ false D m e ((val a.den : Int)) (k) ?_ ?_).mono ?_); (exact hN); (exact hD); (have := HK.out; omega); rintro e w3 ⟨b3, A3, n3, c3, rfl, h3, q3⟩
 clear cx1aa cx1ab cx1ac lx1aa lx1ab lx1ac lx1ad
 replace h := h.belw q3
 replace hN := hN.belw q3
 replace hD := hD.belw q3
 replace x1a := x1a.b q3
 have bw3 := bw2.trans (q3.mono bw2.size)
 have lw3 := q3.size
 clear q3 bw2
 go_wp2_with fail
 (with_reducible refine (g_one _).mono ?_); rintro e w4 ⟨b4, A4, n4, c4, rfl, h4, q4⟩
 replace h := h.belw q4
 replace hN := hN.belw q4
 replace hD := hD.belw q4
 replace h3 := h3.belw q4
 replace x1a := x1a.b q4
 have bw4 := bw3.trans (q4.mono bw3.size)
 have lw4 := q4.size
 clear q4 bw3
 go_wp2_with fail
 (with_reducible refine (r01_cmp_e _ b3 A3 n3 c3 ((Nat.gcd (((val a.num : Int))).natAbs (((val a.den : Int))).natAbs : Nat)) ((k) + (k)) ?_ b4 A4 n4 c4 (1) (1) ?_ s ?_ ?_).mono ?_); (exact h3.iz); (exact h4.iz); (exact HC.out); (have := HK.out; omega); rintro e w5 ⟨rfl, q5⟩
 replace h := h.belw q5
 replace hN := hN.belw q5
 replace hD := hD.belw q5
 replace h3 := h3.belw q5
 replace h4 := h4.belw q5
 replace x1a := x1a.b q5
 have bw5 := bw4.trans (q5.mono bw4.size)
 have lw5 := q5.size
 clear q5 bw4
 go_wp2_with fail
 go_ret
 exact retB (ok_last HC.out HR.out) bw5
theorem g_valid (w : World) (b A n c D m e a k) (h : QD w b A n c D m e a k) (hk : k ≤ 300000000) : Calls Tryz.prog 75 #[.agg #[.bool b, .slice A n c, .slice D m e]] w (RetV w (.bool a.ok)) := by
  rcases Nat.eq_zero_or_pos n with h1 | h1
  · rcases Nat.eq_zero_or_pos m with h2 | h2
    · exact g_valid_0 w b A n c D m e a k h hk h1 h2
    · cases p1 : plainB a.num
      · exact g_valid_z1 w b A n c D m e a k h hk h1 h2 p1
      · cases p2 : plainB a.den
        · exact g_valid_z2 w b A n c D m e a k h hk h1 h2 p1 p2
        · exact g_valid_z3 w b A n c D m e a k h hk h1 h2 p1 p2
  · cases p1 : plainB a.num
    · exact g_valid_p1 w b A n c D m e a k h hk h1 p1
    · cases p2 : plainB a.den
      · exact g_valid_p2 w b A n c D m e a k h hk h1 p1 p2
      · exact g_valid_p3 w b A n c D m e a k h hk h1 p1 p2
end Go.Proofs.YtianjkiakkclgaaGreatDoor

/- Walks: the reference: the parts of a fraction, its sign. -/
namespace Go.Proofs.YtianjkiakkclgaaGreatDoor
open Go Go.RowKit Bn
attribute [local go_sem ↓] Go.wp_at_zero Go.wp_at_succ
theorem g_valid_e (w : World) (b : Bool) (A : Option Addr) (n c : Nat) (D : Option Addr) (m e : Nat) (a : RD) (k : Nat) (v : Bool) (h : QD w b A n c D m e a k) (hk : k ≤ 300000000) (hv : a.ok = v) :
    Calls Tryz.prog 75 #[.agg #[.bool b, .slice A n c, .slice D m e]] w (RetV w (.bool v)) := by subst hv; exact g_valid w b A n c D m e a k h hk
theorem g_parts_1 (w : World) (b A n c D m e a k) (h : QD w b A n c D m e a k) (h0 : 0 < k) (hk : k ≤ 300000000) (ho : a.ok = false) :
  Calls Tryz.prog 68 #[.agg #[.bool b, .slice A n c, .slice D m e]] w (RetII w a.q.num a.q.den k) := by
 have HK := Lib.hid hk
 have HO := Lib.hid ho
 have hq : a.q.num = 0 ∧ (a.q.den : Int) = 1 := q_bad (.inl ho)
 rw [hq.1, hq.2]
 clear hq ho
 have HP := Lib.hid h0
 go_enter Tryz.func68, Tryz.ntmps68
 go_wp2_with fail
 (with_reducible refine (g_valid_e _ b A n c D m e a k false ?_ ?_ ?_).mono ?_); (exact h.belw (((((Below.refl _ _).alloc (Nat.le_refl _) _).alloc (by simp) _).alloc (by simp <;> omega) _))); (exact HK.out); (exact HO.out); rintro e w1 ⟨rfl, hb1⟩
 have q1 := hb1.q3
 replace h := h.belw q1
 have x1a : Blk w1 w.heap.size 24 #[.bool b, .slice A n c, .slice D m e] := (((blkAt _ _ _ (by simp)).alloc _).alloc _).below hb1 (by simp <;> omega)
 have x1b := ((blkAt _ _ _ (g := w.heap.size + 1) (by simp)).alloc _).below hb1 (by simp <;> omega)
 have x1c := (blkAt _ _ _ (g := w.heap.size + 1 + 1) (by simp)).below hb1 (by simp)
 have bw1 := (brefl w).trans (q1.mono (brefl w).size)
 have lw1 := hb1.l3
 clear q1
 have cx1a := x1a.c3
 have lx1a := lts0 x1a.lt
 go_wp2_with fail
 (with_reducible refine (g_one _).mono ?_); rintro e w2 ⟨b2, A2, n2, c2, rfl, h2, q2⟩
 clear cx1a lx1a
 replace h := h.belw q2
 replace x1a := x1a.b q2
 replace x1b := x1b.b q2
 replace x1c := x1c.b q2
 have bw2 := bw1.trans (q2.mono bw1.size)
 have lw2 := q2.size
 clear q2 bw1
 have cx1b := x1b.c2
 have fx1b := x1b.f2
 have lx1b := lts1 x1b.lt
 have cx1c := x1c.c2
 have fx1c := x1c.f2
 have lx1c := lts2 x1c.lt
 go_wp2_with fail
 refine bodyPost_ret (v := .tuple #[.agg #[.bool false, .slice none 0 0], .agg #[.bool b2, .slice A2 n2 c2]]) (by simp [results, Tryz.results68, go_sem, *] <;> trivial) rfl ?_
 exact ⟨false, none, 0, 0, b2, A2, n2, c2, rfl, IV.zero _ _, (h2.keep (((((Kp.refl w2).sb (w.heap.size + 1) 0 x1b.box (by decide) (.bool false)).sb (w.heap.size + 1) 1 (x1b.box.set ⟨w.heap.size + 1, 0, none⟩ (.bool false)) (by decide) (.slice none 0 0)).sb (w.heap.size + 1 + 1) 0 ((x1c.box.set ⟨w.heap.size + 1, 0, none⟩ (.bool false)).set ⟨w.heap.size + 1, 1, none⟩ (.slice none 0 0)) (by decide) (.bool b2)).sb (w.heap.size + 1 + 1) 1 (((x1c.box.set ⟨w.heap.size + 1, 0, none⟩ (.bool false)).set ⟨w.heap.size + 1, 1, none⟩ (.slice none 0 0)).set ⟨w.heap.size + 1 + 1, 0, none⟩ (.bool b2)) (by decide) (.slice A2 n2 c2))).mono (by first | exact HP.out | omega), ((((bw2.sc (w.heap.size + 1) 0 (by omega) (.bool false)).sc (w.heap.size + 1) 1 (by omega) (.slice none 0 0)).sc (w.heap.size + 1 + 1) 0 (by omega) (.bool b2)).sc (w.heap.size + 1 + 1) 1 (by omega) (.slice A2 n2 c2))⟩
theorem g_parts_2 (w : World) (b A n c D m e a k) (h : QD w b A n c D m e a k) (h0 : 0 < k) (hk : k ≤ 300000000) (ho : a.ok = true) (hn : n = 0) :
  Calls Tryz.prog 68 #[.agg #[.bool b, .slice A n c, .slice D m e]] w (RetII w a.q.num a.q.den k) := by
 have HK := Lib.hid hk
 have HO := Lib.hid ho
 have hq : a.q.num = 0 ∧ (a.q.den : Int) = 1 := q_bad (.inr (List.eq_nil_of_length_eq_zero (by rw [← h.2.1.2.1, hn])))
 rw [hq.1, hq.2]
 clear hq ho
 subst hn
 have HP := Lib.hid h0
 go_enter Tryz.func68, Tryz.ntmps68
 go_wp2_with fail
 (with_reducible refine (g_valid_e _ b A 0 c D m e a k true ?_ ?_ ?_).mono ?_); (exact h.belw (((((Below.refl _ _).alloc (Nat.le_refl _) _).alloc (by simp) _).alloc (by simp <;> omega) _))); (exact HK.out); (exact HO.out); rintro e w1 ⟨rfl, hb1⟩
 have q1 := hb1.q3
 replace h := h.belw q1
 have x1a : Blk w1 w.heap.size 24 #[.bool b, .slice A 0 c, .slice D m e] := (((blkAt _ _ _ (by simp)).alloc _).alloc _).below hb1 (by simp <;> omega)
 have x1b := ((blkAt _ _ _ (g := w.heap.size + 1) (by simp)).alloc _).below hb1 (by simp <;> omega)
 have x1c := (blkAt _ _ _ (g := w.heap.size + 1 + 1) (by simp)).below hb1 (by simp)
 have bw1 := (brefl w).trans (q1.mono (brefl w).size)
 have lw1 := hb1.l3
 clear q1
 have cx1a := x1a.c3
 have lx1a := lts0 x1a.lt
 go_wp2_with fail
 (with_reducible refine (g_one _).mono ?_); rintro e w2 ⟨b2, A2, n2, c2, rfl, h2, q2⟩
 clear cx1a lx1a
 replace h := h.belw q2
 replace x1a := x1a.b q2
 replace x1b := x1b.b q2
 replace x1c := x1c.b q2
 have bw2 := bw1.trans (q2.mono bw1.size)
 have lw2 := q2.size
 clear q2 bw1
 have cx1b := x1b.c2
 have fx1b := x1b.f2
 have lx1b := lts1 x1b.lt
 have cx1c := x1c.c2
 have fx1c := x1c.f2
 have lx1c := lts2 x1c.lt
 go_wp2_with fail
 refine bodyPost_ret (v := .tuple #[.agg #[.bool false, .slice none 0 0], .agg #[.bool b2, .slice A2 n2 c2]]) (by simp [results, Tryz.results68, go_sem, *] <;> trivial) rfl ?_
 exact ⟨false, none, 0, 0, b2, A2, n2, c2, rfl, IV.zero _ _, (h2.keep (((((Kp.refl w2).sb (w.heap.size + 1) 0 x1b.box (by decide) (.bool false)).sb (w.heap.size + 1) 1 (x1b.box.set ⟨w.heap.size + 1, 0, none⟩ (.bool false)) (by decide) (.slice none 0 0)).sb (w.heap.size + 1 + 1) 0 ((x1c.box.set ⟨w.heap.size + 1, 0, none⟩ (.bool false)).set ⟨w.heap.size + 1, 1, none⟩ (.slice none 0 0)) (by decide) (.bool b2)).sb (w.heap.size + 1 + 1) 1 (((x1c.box.set ⟨w.heap.size + 1, 0, none⟩ (.bool false)).set ⟨w.heap.size + 1, 1, none⟩ (.slice none 0 0)).set ⟨w.heap.size + 1 + 1, 0, none⟩ (.bool b2)) (by decide) (.slice A2 n2 c2))).mono (by first | exact HP.out | omega), ((((bw2.sc (w.heap.size + 1) 0 (by omega) (.bool false)).sc (w.heap.size + 1) 1 (by omega) (.slice none 0 0)).sc (w.heap.size + 1 + 1) 0 (by omega) (.bool b2)).sc (w.heap.size + 1 + 1) 1 (by omega) (.slice A2 n2 c2))⟩
theorem g_parts_3 (w : World) (b A n c D m e a k) (h : QD w b A n c D m e a k) (h0 : 0 < k) (hk : k ≤ 300000000) (ho : a.ok = true) (hn : a.num ≠ []) :
    Calls Tryz.prog 68 #[.agg #[.bool b, .slice A n c, .slice D m e]] w (RetII w a.q.num a.q.den k) := by
  have HK := Lib.hid hk
  have HO := Lib.hid ho
  obtain ⟨e1, e2, e3⟩ := q_ok h.2.1.1 h.2.2.1.1 ho hn
  have HE := Lib.hid (And.intro e1 (And.intro e2 e3))
  have hnp : 0 < n := by rcases Nat.eq_zero_or_pos n with h1 | h1; exact absurd (List.eq_nil_of_length_eq_zero (by rw [← h.2.1.2.1, h1])) hn; exact h1
  have en : ((n : Int) == 0) = false := by simp; omega
  clear ho hn e1 e2 e3 hk
  go_enter Tryz.func68, Tryz.ntmps68
  go_wp2_with fail
  (with_reducible refine (g_valid_e _ b A n c D m e a k true ?_ ?_ ?_).mono ?_); (exact h.belw (((((Below.refl _ _).alloc (Nat.le_refl _) _).alloc (by simp) _).alloc (by simp <;> omega) _))); (exact HK.out); (exact HO.out); rintro e w1 ⟨rfl, hb1⟩
  have q1 := hb1.q3
  replace h := h.belw q1
  have x1a : Blk w1 w.heap.size 24 #[.bool b, .slice A n c, .slice D m e] := (((blkAt _ _ _ (by simp)).alloc _).alloc _).below hb1 (by simp <;> omega)
  have x1b := ((blkAt _ _ _ (g := w.heap.size + 1) (by simp)).alloc _).below hb1 (by simp <;> omega)
  have x1c := (blkAt _ _ _ (g := w.heap.size + 1 + 1) (by simp)).below hb1 (by simp)
  have bw1 := (brefl w).trans (q1.mono (brefl w).size)
  have lw1 := hb1.l3
  clear q1
  have cx1a := x1a.c3
  have lx1a := lts0 x1a.lt
  go_wp2_with fail
  refine wp_region_lin (B := w.heap.size) (fr := fun xf => ⟨List.toArray (.agg #[.bool b, .slice A n c, .slice D m e] :: .pointer (some ⟨w.heap.size, 0, none⟩) :: .pointer (some ⟨w.heap.size + 1, 0, none⟩) :: .pointer (some ⟨w.heap.size + 1 + 1, 0, none⟩) :: .agg #[.bool b, .slice A n c, .slice D m e] :: .bool true :: .bool false :: .bool false :: .pointer (some ⟨w.heap.size, 1, none⟩) :: .slice A n c :: .int .i64 n :: .bool false :: .bool false :: undef :: undef :: xf 0 :: xf 1 :: xf 2 :: xf 3 :: xf 4 :: xf 5 :: xf 6 :: xf 7 :: []), []⟩) (R := fun i => List.getD ((PEq (.pointer (some ⟨w.heap.size, 0, none⟩))) :: (PEq (.bool b)) :: (PEq (.pointer (some ⟨w.heap.size, 1, none⟩))) :: (PEq (.slice A n c)) :: (PEq (.agg #[.bool b, .slice A n c])) :: (PEq (.pointer (some ⟨w.heap.size, 2, none⟩))) :: (PEq (.slice D m e)) :: (PEq (.agg #[.bool false, .slice D m e])) :: PAny :: PAny :: []) i (fun _ _ => True)) (es := []) (ow := [⟨w.heap.size, 10, 0, 24, #[.bool b, .slice A n c, .slice D m e], CAny⟩, ⟨w.heap.size + 1, 8, 0, 77, #[.bool false, .slice none 0 0], fun cz _ => cz = #[.bool b, .slice A n c]⟩, ⟨w.heap.size + 1 + 1, 9, 0, 77, #[.bool false, .slice none 0 0], fun cz _ => cz = #[.bool false, .slice D m e]⟩]) (x0 := (fun _ => undef)) (by kernel_rfl)
    (each_of ⟨fun _ _ => rfl, fun _ _ => rfl, fun _ _ => rfl, fun _ _ => rfl, fun _ _ => rfl, fun _ _ => rfl, fun _ _ => rfl, fun _ _ => rfl, fun _ _ => rfl, fun _ _ => rfl, trivial⟩) (each_of (acyc_from _ 0 (by kernel_rfl))) (AllStab.get _ ⟨stEq _, stEq _, stEq _, stEq _, stEq _, stEq _, stEq _, stEq _, stAny, stAny, trivial⟩)
    (fun _ h => nomatch h) (fmc ⟨scAny, fmc ⟨fun _ _ _ h _ => h, fmc ⟨fun _ _ _ h _ => h, fun _ h => nomatch h⟩⟩⟩) (fun _ h => nomatch h) bw1.size
    (fmc ⟨⟨x1a, by show w.heap.size ≤ w.heap.size; omega⟩, fmc ⟨⟨x1b, by show w.heap.size ≤ w.heap.size + 1; omega⟩, fmc ⟨⟨x1c, by show w.heap.size ≤ w.heap.size + 1 + 1; omega⟩, fun _ h => nomatch h⟩⟩⟩) (ownDist (by simp <;> omega))
    (each_of ⟨?_, ?_, ?_, ?_, ?_, ?_, ?_, ?_, ?_, ?_, trivial⟩) ?_
  · exact .inl ⟨by simp, by simp, fun xf wq hk hbl hd K hK => by
      (try dsimp only)
      go_simp
      exact hK.out (.pointer (some ⟨w.heap.size, 0, none⟩)) _ rfl (brefl _)⟩
  · exact .inl ⟨by simp, by simp, fun xf wq hk hbl hd K hK => by
      have d0 : xf 0 = .pointer (some ⟨w.heap.size, 0, none⟩) := hd ⟨0, .data⟩ (by simp) rfl
      have y : Blk wq w.heap.size 24 #[.bool b, .slice A n c, .slice D m e] := hbl _ (List.Mem.head _) (by simp [Region.binds])
      obtain ⟨hcl0, hcl1, hcl2⟩ := y.c3
      (try dsimp only); (try simp only [d0])
      go_simp
      have hz := hK.out (.bool b) _ rfl (brefl _)
      simp only [d0] at hz
      exact hz⟩
  · exact .inl ⟨by simp, by simp, fun xf wq hk hbl hd K hK => by
      (try dsimp only)
      go_simp
      exact hK.out (.pointer (some ⟨w.heap.size, 1, none⟩)) _ rfl (brefl _)⟩
  · exact .inl ⟨by simp, by simp, fun xf wq hk hbl hd K hK => by
      have d2 : xf 2 = .pointer (some ⟨w.heap.size, 1, none⟩) := hd ⟨2, .data⟩ (by simp) rfl
      have y : Blk wq w.heap.size 24 #[.bool b, .slice A n c, .slice D m e] := hbl _ (List.Mem.head _) (by simp [Region.binds])
      obtain ⟨hcl0, hcl1, hcl2⟩ := y.c3
      (try dsimp only); (try simp only [d2])
      go_simp
      have hz := hK.out (.slice A n c) _ rfl (brefl _)
      simp only [d2] at hz
      exact hz⟩
  · exact .inl ⟨by simp, by simp, fun xf wq hk hbl hd K hK => by
      have d1 : xf 1 = .bool b := hd ⟨1, .data⟩ (by simp) rfl
      have d3 : xf 3 = .slice A n c := hd ⟨3, .data⟩ (by simp) rfl
      (try dsimp only); (try simp only [d1, d3])
      go_simp
      have hz := hK.out (.agg #[.bool b, .slice A n c]) _ rfl (brefl _)
      simp only [d1, d3] at hz
      exact hz⟩
  · exact .inl ⟨by simp, by simp, fun xf wq hk hbl hd K hK => by
      (try dsimp only)
      go_simp
      exact hK.out (.pointer (some ⟨w.heap.size, 2, none⟩)) _ rfl (brefl _)⟩
  · exact .inl ⟨by simp, by simp, fun xf wq hk hbl hd K hK => by
      have d5 : xf 5 = .pointer (some ⟨w.heap.size, 2, none⟩) := hd ⟨5, .data⟩ (by simp) rfl
      have y : Blk wq w.heap.size 24 #[.bool b, .slice A n c, .slice D m e] := hbl _ (List.Mem.head _) (by simp [Region.binds])
      obtain ⟨hcl0, hcl1, hcl2⟩ := y.c3
      (try dsimp only); (try simp only [d5])
      go_simp
      have hz := hK.out (.slice D m e) _ rfl (brefl _)
      simp only [d5] at hz
      exact hz⟩
  · exact .inl ⟨by simp, by simp, fun xf wq hk hbl hd K hK => by
      have d6 : xf 6 = .slice D m e := hd ⟨6, .data⟩ (by simp) rfl
      (try dsimp only); (try simp only [d6])
      go_simp
      have hz := hK.out (.agg #[.bool false, .slice D m e]) _ rfl (brefl _)
      simp only [d6] at hz
      exact hz⟩
  · exact .inr (.inr (.inr ⟨⟨w.heap.size + 1, 8, 0, 77, #[.bool false, .slice none 0 0], fun cz _ => cz = #[.bool b, .slice A n c]⟩, by simp, rfl, by simp, by simp, (show KT 77 = false by decide), fun _ _ => True.intro, fun xf wq hblk hd => by
      have d4 : xf 4 = .agg #[.bool b, .slice A n c] := hd ⟨4, .data⟩ (by simp) rfl
      dsimp only at hblk
      refine ⟨[.bool b, .slice A n c], fun w' hk => rfl, fun K hK => ?_⟩
      have hc0 : wq.cell? ⟨w.heap.size + 1, 0, none⟩ = some (.bool false) := hblk.cell 0
      have hc1 : wq.cell? ⟨w.heap.size + 1, 1, none⟩ = some (.slice none 0 0) := hblk.cell 1
      have hf0 : wq.frozen? ⟨w.heap.size + 1, 0, none⟩ = false := hblk.frozen 0
      have hf1 : wq.frozen? ⟨w.heap.size + 1, 1, none⟩ = false := hblk.frozen 1
      (try dsimp only)
      simp only [d4]
      go_simp
      have hz := hK.out undef
      simp only [d4] at hz
      exact hz⟩))
  · exact .inr (.inr (.inr ⟨⟨w.heap.size + 1 + 1, 9, 0, 77, #[.bool false, .slice none 0 0], fun cz _ => cz = #[.bool false, .slice D m e]⟩, by simp, rfl, by simp, by simp, (show KT 77 = false by decide), fun _ _ => True.intro, fun xf wq hblk hd => by
      have d7 : xf 7 = .agg #[.bool false, .slice D m e] := hd ⟨7, .data⟩ (by simp) rfl
      dsimp only at hblk
      refine ⟨[.bool false, .slice D m e], fun w' hk => rfl, fun K hK => ?_⟩
      have hc0 : wq.cell? ⟨w.heap.size + 1 + 1, 0, none⟩ = some (.bool false) := hblk.cell 0
      have hc1 : wq.cell? ⟨w.heap.size + 1 + 1, 1, none⟩ = some (.slice none 0 0) := hblk.cell 1
      have hf0 : wq.frozen? ⟨w.heap.size + 1 + 1, 0, none⟩ = false := hblk.frozen 0
      have hf1 : wq.frozen? ⟨w.heap.size + 1 + 1, 1, none⟩ = false := hblk.frozen 1
      (try dsimp only)
      simp only [d7]
      go_simp
      have hz := hK.out undef
      simp only [d7] at hz
      exact hz⟩))
  clear cx1a lx1a
  intro y2 w2 kq2 hbl2 lw2 how hrr hfl hds
  replace h := h.keep kq2
  obtain ⟨_, z2_0, ez, _⟩ := how _ (List.Mem.head _)
  obtain rfl := ez (by simp)
  dsimp only at z2_0
  obtain ⟨_, z2_1, _, ez⟩ := how _ (List.Mem.tail _ (List.Mem.head _))
  obtain rfl := ez (by simp)
  dsimp only at z2_1
  obtain ⟨_, z2_2, _, ez⟩ := how _ (List.Mem.tail _ (List.Mem.tail _ (List.Mem.head _)))
  obtain rfl := ez (by simp)
  dsimp only at z2_2
  (try dsimp only)
  clear hrr hfl how hds 
  clear x1a x1b x1c
  have bw2 := bw1.trans hbl2
  clear bw1
  have cz2_1_0 : w2.cell? ⟨w.heap.size + 1, 0, none⟩ = some (.bool b) := z2_1.cell 0
  have cz2_1_1 : w2.cell? ⟨w.heap.size + 1, 1, none⟩ = some (.slice A n c) := z2_1.cell 1
  have lz2_1 := lts1 z2_1.lt
  have cz2_2_0 : w2.cell? ⟨w.heap.size + 1 + 1, 0, none⟩ = some (.bool false) := z2_2.cell 0
  have cz2_2_1 : w2.cell? ⟨w.heap.size + 1 + 1, 1, none⟩ = some (.slice D m e) := z2_2.cell 1
  have lz2_2 := lts2 z2_2.lt
  go_wp2_with fail
  refine bodyPost_ret (v := .tuple #[.agg #[.bool b, .slice A n c], .agg #[.bool false, .slice D m e]]) (by simp [results, Tryz.results68, go_sem, *] <;> trivial) rfl ?_
  have kp := (Kp.refl w2)
  exact ⟨b, A, n, c, false, D, m, e, rfl, ⟨h.1.symm.trans HE.out.2.1, HE.out.1 ▸ h.2.1.keep kp, h.2.2.2.1⟩, ⟨by simp [wh], HE.out.2.2 ▸ h.2.2.1.keep kp, h.2.2.2.2⟩, bw2⟩
theorem g_parts (w : World) (b A n c D m e q k) (h : QZ w b A n c D m e q k) (h0 : 0 < k) (hk : k ≤ 300000000) :
    Calls Tryz.prog 68 #[.agg #[.bool b, .slice A n c, .slice D m e]] w (RetII w q.num q.den k) := by
  obtain ⟨a, h, rfl⟩ := h
  cases ho : a.ok
  · exact g_parts_1 w b A n c D m e a k h h0 hk ho
  · by_cases hn : n = 0
    · exact g_parts_2 w b A n c D m e a k h h0 hk ho hn
    · exact g_parts_3 w b A n c D m e a k h h0 hk ho (h.num_ne (by omega))
theorem g_sign (w : World) (b A n c D m e q k) (h : QZ w b A n c D m e q k) (h0 : 0 < k) (hk : k ≤ 40000000) :
  Calls Tryz.prog 38 #[.agg #[.bool b, .slice A n c, .slice D m e]] w (RetV w (.int .i64 q.num.sign)) := by
 go_enter Tryz.func38, Tryz.ntmps38
 go_wp2_with fail
 (with_reducible refine (g_parts _ b A n c D m e (q) (k) ?_ ?_ ?_).mono ?_); (exact (h.belw ((Below.refl _ _).alloc (Nat.le_refl _) _))); (omega); (omega); rintro e w1 ⟨b1, A1, n1, c1, b'1, A'1, n'1, c'1, rfl, h1, h'1, hb1⟩
 have q1 := hb1.q1
 replace h := h.belw q1
 have x1a : Blk w1 w.heap.size 24 #[.bool b, .slice A n c, .slice D m e] := (blkAt _ _ _ (by simp)).below hb1 (by simp)
 have bw1 := (brefl w).trans (q1.mono (brefl w).size)
 have lw1 := hb1.l1
 clear q1
 go_wp2_with fail
 (with_reducible refine (r01_sign _ b1 A1 n1 c1 ((q).num) ((k)) ?_ ?_).mono ?_); (exact (h1.belw (((Below.refl _ _).alloc (Nat.le_refl _) _).alloc (by simp) _)).iz); (omega); rintro e w2 ⟨rfl, hb2⟩
 have q2 := hb2.q2
 replace h := h.belw q2
 replace h1 := h1.belw q2
 replace h'1 := h'1.belw q2
 replace x1a := x1a.b q2
 have x2a : Blk w2 w1.heap.size 77 #[.bool b1, .slice A1 n1 c1] := ((blkAt _ _ _ (by simp)).alloc _).below hb2 (by simp <;> omega)
 have x2b := (blkAt _ _ _ (g := w1.heap.size + 1) (by simp)).below hb2 (by simp)
 have bw2 := bw1.trans (q2.mono bw1.size)
 have lw2 := hb2.l2
 clear q2 bw1
 go_wp2_with fail
 go_ret
 exact retI rfl bw2
end Go.Proofs.YtianjkiakkclgaaGreatDoor

/- Division bit by bit: plain numbers. -/
namespace Bn
theorem wd_val {l : List Nat} (h : Wds l) (j : Nat) : wd l j = val l / 4294967296 ^ j % 4294967296 := by
  have e := Sm_ge l (show l.length ≤ j + (l.length + 1) by omega)
  have h1 : Sm (wd l) j < 4294967296 ^ j := Sm_lt (fun i _ => wd_lt h i)
  rw [Sm_add, Sm_shift] at e
  simp only [Nat.add_zero] at e
  generalize Sm (fun i => wd l (j + (i + 1))) l.length = X at e
  rw [← e, Nat.add_mul_div_left _ _ (pow_pos' j), Nat.div_eq_of_lt h1, Nat.zero_add, Nat.add_mul_mod_self_left]
  exact (Nat.mod_eq_of_lt (wd_lt h j)).symm
theorem pow_split (i : Nat) : 4294967296 ^ (i / 32) * 2 ^ (i % 32) = 2 ^ i := by
  have : (4294967296 : Nat) ^ (i / 32) = 2 ^ (32 * (i / 32)) := by rw [Nat.pow_mul]
  rw [this, ← Nat.pow_add, Nat.div_add_mod]
theorem wd_bit {l : List Nat} (h : Wds l) (i : Nat) : wd l (i / 32) / 2 ^ (i % 32) % 2 = val l / 2 ^ i % 2 := by
  rw [wd_val h, ← pow_split i, ← Nat.div_div_eq_div_mul]
  generalize val l / 4294967296 ^ (i / 32) = x
  have hs : i % 32 < 32 := Nat.mod_lt _ (by decide)
  generalize i % 32 = s at *
  have h1 := Nat.testBit_mod_two_pow x 32 s
  simp only [hs, decide_true, Bool.true_and, Nat.testBit_eq_decide_div_mod_eq] at h1
  have h2 : (x % 2 ^ 32 / 2 ^ s % 2 = 1) ↔ (x / 2 ^ s % 2 = 1) := by simpa using h1
  have e : (2 : Nat) ^ 32 = 4294967296 := by decide
  rw [e] at h2
  omega
theorem val_set (L : List Nat) (j x : Nat) (h : j < L.length) : val (L.set j x) + wd L j * 4294967296 ^ j = val L + x * 4294967296 ^ j := by
  have := Sm_set_mid L j x L.length h h
  rw [Sm_ge (L.set j x) (by simp), Sm_ge L (Nat.le_refl _)] at this
  exact this
theorem or_pow {x s : Nat} (hx : x % 2 ^ (s + 1) = 0) : x ||| 2 ^ s = x + 2 ^ s := by
  have h := Nat.shiftLeft_add_eq_or_of_lt (b := 2 ^ s) (i := s + 1) (Nat.pow_lt_pow_right (by omega) (by omega)) (x / 2 ^ (s + 1))
  rw [Nat.shiftLeft_eq, Nat.div_mul_cancel (Nat.dvd_of_mod_eq_zero hx)] at h
  exact h.symm
theorem or_bit {L : List Nat} (h : Wds L) (i : Nat) (hi : i / 32 < L.length) {m : Nat} (hv : val L = m * 2 ^ (i + 1)) :
    wd L (i / 32) ||| 2 ^ (i % 32) = wd L (i / 32) + 2 ^ (i % 32) ∧ wd L (i / 32) + 2 ^ (i % 32) < 4294967296 ∧ val (L.set (i / 32) (wd L (i / 32) + 2 ^ (i % 32))) = val L + 2 ^ i := by
  have hs : i % 32 < 32 := Nat.mod_lt _ (by decide)
  have hx : wd L (i / 32) % 2 ^ (i % 32 + 1) = 0 := by
    rw [wd_val h, hv, Nat.pow_succ, ← pow_split i]
    have e1 : m * (4294967296 ^ (i / 32) * 2 ^ (i % 32) * 2) = 4294967296 ^ (i / 32) * (m * 2 ^ (i % 32 + 1)) := by rw [Nat.pow_succ]; grind
    rw [e1, Nat.mul_div_cancel_left _ (pow_pos' _)]
    have e2 : (4294967296 : Nat) = 2 ^ (i % 32 + 1) * 2 ^ (31 - i % 32) := by rw [← Nat.pow_add, show i % 32 + 1 + (31 - i % 32) = 32 by omega]
    rw [e2, Nat.mod_mul_right_mod, Nat.mul_mod_left]
  refine ⟨or_pow hx, ?_, ?_⟩
  · have h1 : wd L (i / 32) ||| 2 ^ (i % 32) < 2 ^ 32 := Nat.or_lt_two_pow (wd_lt h _) (Nat.pow_lt_pow_right (by omega) hs)
    rw [or_pow hx] at h1; exact h1
  · have h1 := val_set L (i / 32) (wd L (i / 32) + 2 ^ (i % 32)) hi
    rw [Nat.add_mul, Nat.mul_comm (2 ^ (i % 32)), pow_split] at h1
    omega
theorem bit_high (a k : Nat) : a / 2 ^ k = 2 * (a / 2 ^ (k + 1)) + a / 2 ^ k % 2 := by
  rw [Nat.pow_succ, ← Nat.div_div_eq_div_mul]; omega
theorem bit_in {a v k r : Nat} (hr : r = 2 * (a / 2 ^ (k + 1) % v) + a / 2 ^ k % 2) (h : v ≤ r) (hv : 0 < v) :
    a / 2 ^ k / v = 2 * (a / 2 ^ (k + 1) / v) + 1 ∧ a / 2 ^ k % v = r - v := by
  have e := bit_high a k
  generalize a / 2 ^ (k + 1) = hi at *
  generalize hb : a / 2 ^ k % 2 = b at *
  have hb1 : b ≤ 1 := by omega
  rw [e]
  have hm := Nat.mod_lt hi hv
  have hd := Nat.div_add_mod hi v
  have e2 : 2 * hi + b = v * (2 * (hi / v) + 1) + (r - v) := by
    rw [Nat.mul_add, Nat.mul_one]
    have : v * (2 * (hi / v)) = 2 * (v * (hi / v)) := by grind
    omega
  have hlt : r - v < v := by omega
  rw [e2]
  constructor
  · rw [Nat.mul_add_div hv, Nat.div_eq_of_lt hlt, Nat.add_zero]
  · rw [Nat.mul_add_mod, Nat.mod_eq_of_lt hlt]
theorem bit_out {a v k r : Nat} (hr : r = 2 * (a / 2 ^ (k + 1) % v) + a / 2 ^ k % 2) (h : r < v) :
    a / 2 ^ k / v = 2 * (a / 2 ^ (k + 1) / v) ∧ a / 2 ^ k % v = r := by
  have hv : 0 < v := by omega
  have e := bit_high a k
  generalize a / 2 ^ (k + 1) = hi at *
  generalize hb : a / 2 ^ k % 2 = b at *
  rw [e]
  have hd := Nat.div_add_mod hi v
  have e2 : 2 * hi + b = v * (2 * (hi / v)) + r := by
    have : v * (2 * (hi / v)) = 2 * (v * (hi / v)) := by grind
    omega
  rw [e2]
  constructor
  · rw [Nat.mul_add_div hv, Nat.div_eq_of_lt h, Nat.add_zero]
  · rw [Nat.mul_add_mod, Nat.mod_eq_of_lt h]
def DblI (l L : List Nat) (b k cr : Nat) : Prop := (∀ i, k ≤ i → wd L i = wd l i) ∧ Sm (wd L) k + cr * 4294967296 ^ k = 2 * Sm (wd l) k + b
theorem DblI.start (l : List Nat) (b : Nat) : DblI l l b 0 b := ⟨fun _ _ => rfl, by simp [Sm]⟩
theorem dbl_word {x c : Nat} (hc : c ≤ 1) (hx : x < 4294967296) : (x * 2 % 4294967296 ||| c) = x * 2 % 4294967296 + c ∧ x * 2 % 4294967296 + c < 4294967296 ∧ x / 2147483648 ≤ 1 := by
  refine ⟨?_, by omega, by omega⟩
  have h := Nat.shiftLeft_add_eq_or_of_lt (b := c) (i := 1) (by omega) (x * 2 % 4294967296 / 2)
  rw [Nat.shiftLeft_eq, Nat.pow_one, show x * 2 % 4294967296 / 2 * 2 = x * 2 % 4294967296 by omega] at h
  exact h.symm
theorem DblI.step {l L : List Nat} {b k cr x : Nat} (h : DblI l L b k cr) (hx : wd l k = x) (hlt : x < 4294967296) (hk : k < L.length) :
    DblI l (L.set k (x * 2 % 4294967296 + cr)) b (k + 1) (x / 2147483648) := by
  refine ⟨fun i hi => ?_, ?_⟩
  · rw [wd_set, if_neg (by omega)]; exact h.1 i (by omega)
  · rw [Sm_set_succ _ _ _ hk, Sm, hx, Nat.pow_succ]
    have h2 := h.2
    have e : x * 2 % 4294967296 + x / 2147483648 * 4294967296 = 2 * x := by omega
    have e2 : x * 2 % 4294967296 * 4294967296 ^ k + x / 2147483648 * (4294967296 ^ k * 4294967296) = 2 * (x * 4294967296 ^ k) := by
      have : (x * 2 % 4294967296 + x / 2147483648 * 4294967296) * 4294967296 ^ k = 2 * x * 4294967296 ^ k := by rw [e]
      rw [Nat.add_mul] at this
      have e3 : x / 2147483648 * (4294967296 ^ k * 4294967296) = x / 2147483648 * 4294967296 * 4294967296 ^ k := by grind
      rw [e3, ← Nat.mul_assoc]; exact this
    rw [Nat.add_mul]
    omega
theorem DblI.fin {l L : List Nat} {b k cr : Nat} (h : DblI l L b k cr) (hl : l.length = k) (hL : L.length = k) (hs : 2 * val l + b < 4294967296 ^ k) : val L = 2 * val l + b := by
  have h2 := h.2
  rw [Sm_ge L (by omega), Sm_ge l (by omega)] at h2
  rcases Nat.eq_zero_or_pos cr with e | e
  · subst e; omega
  · have : 1 * 4294967296 ^ k ≤ cr * 4294967296 ^ k := Nat.mul_le_mul_right _ e
    omega
theorem dbl_room {r v b m : Nat} (hr : r < v) (hv : v < 4294967296 ^ m) (hb : b ≤ 1) : 2 * r + b < 4294967296 ^ (m + 1) := by
  rw [Nat.pow_succ]; omega
end Bn

/- Walks: the reference's number of bits. -/
namespace Go.Proofs.YtianjkiakkclgaaGreatDoor
open Go Go.RowKit Bn
attribute [local go_sem ↓] Go.wp_at_zero Go.wp_at_succ

theorem val_last {l : List Nat} (h : Wds l) (h0 : 0 < l.length) {t : Nat} (ht : wd l (l.length - 1) < 2 ^ t) : val l < 2 ^ (32 * (l.length - 1) + t) := by
  have e := Sm_ge l (Nat.le_refl _)
  obtain ⟨m, hm⟩ : ∃ m, l.length = m + 1 := ⟨l.length - 1, by omega⟩
  rw [hm] at e ht ⊢
  simp only [Nat.add_sub_cancel] at ht ⊢
  rw [Sm] at e
  have h1 : Sm (wd l) m < 4294967296 ^ m := Sm_lt (fun i _ => wd_lt h i)
  have h2 : (4294967296 : Nat) ^ m = 2 ^ (32 * m) := by rw [Nat.pow_mul]
  rw [h2] at h1 e
  rw [Nat.pow_add, ← e]
  have h3 : (wd l m + 1) * 2 ^ (32 * m) ≤ 2 ^ t * 2 ^ (32 * m) := Nat.mul_le_mul_right _ ht
  rw [Nat.add_mul] at h3
  rw [Nat.mul_comm (2 ^ (32 * m)) (2 ^ t)]
  omega
def RetB (w : World) (v n : Nat) (e : Ending) (w' : World) : Prop := ∃ N : Nat, e = .returned (.int .i64 (N : Nat)) ∧ v < 2 ^ N ∧ N ≤ 32 * n ∧ w = w'
theorem r_bits_c (w : World) (A n c l) (wa : Wd w A n c l) (hn : n ≤ 1099511627776) :
  Calls Tryz.prog 162 #[.slice A n c] w (RetB w (val l) n) := by
 have HL := Lib.hid wa.2.1
 by_cases h0 : n = 0
 ·subst h0
  have HE := Lib.hid (show val l = 0 by rw [List.eq_nil_of_length_eq_zero HL.out.symm]; rfl)
  clear wa
  go_enter Tryz.func162, Tryz.ntmps162
  go_wp2
  go_ret
  exact ⟨0, rfl, by rw [HE.out]; decide, by omega, rfl⟩
 ·obtain ⟨g, o, rfl, hgl, hc⟩ := wa.at2 (by omega)
  have hck := hc (n - 1) (by omega)
  have hlt := wa.lt (n - 1)
  have hp : 0 < n := by omega
  have HW := Lib.hid wa.1
  obtain ⟨x0, hx0⟩ : ∃ x, wd l (n - 1) = x := ⟨_, rfl⟩
  rw [hx0] at hck hlt
  have HX := Lib.hid hx0
  clear hc h0 hx0 wa
  have hn0 : ((n : Int) == 0) = false := by simp; omega
  go_enter Tryz.func162, Tryz.ntmps162
  go_wp2_with fail
  go_loop [3, 4] (fun nv xv => ∃ (t x : Nat), t ≤ 32 ∧ nv = .int .i64 ((32 * (n - 1) + t : Nat) : Int) ∧ xv = .int .u32 (x : Nat) ∧ x < 4294967296 ∧ x = x0 / 2 ^ t) (fun _ xv => (intOf xv).toNat)
  case atStart => exact ⟨0, x0, by omega, by congr 1; omega, rfl, hlt, by simp⟩
  case round =>
   obtain ⟨t, x, ht, rfl, rfl, hx, he⟩ := hrel
   have HE := Lib.hid he
   clear he
   by_cases hz : x = 0
   ·subst hz
    go_wp2
    go_ret
    refine ⟨32 * (n - 1) + t, rfl, ?_, by omega, rfl⟩
    have h1 : x0 < 2 ^ t := by
     have := HE.out
     rcases Nat.lt_or_ge x0 (2 ^ t) with h | h
     ·exact h
     ·have := Nat.div_pos h (Nat.pow_pos (by omega)); omega
    have := val_last HW.out (by rw [← HL.out]; exact hp) (t := t) (by rw [← HL.out, HX.out]; exact h1)
    rwa [← HL.out] at this
   ·have ht2 : t < 32 := by
     rcases Nat.lt_or_ge t 32 with h | h
     ·exact h
     ·exfalso
      have e : t = 32 := by omega
      have := HE.out
      rw [e] at this
      have : x = 0 := by rw [this]; exact Nat.div_eq_of_lt hlt
      omega
    have hxp : 0 < x := by omega
    go_wp2
    go_round
    case rel => exact ⟨t + 1, x / 2, by omega, by congr 1 <;> omega, by congr 1 <;> omega, by omega, by rw [HE.out, Nat.pow_succ, Nat.div_div_eq_div_mul]⟩
    case measure => simp [intOf]; omega
end Go.Proofs.YtianjkiakkclgaaGreatDoor
