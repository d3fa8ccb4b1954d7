/- TokenJoinsAll (second form): Join returns the texts of any tokens, with a space between each two, as the reference does; for every input of bulk at most 1048576 the law returns true. The listed library variables are tied to the program text. -/
import Derived.Deep.DeepCutAuto
import Derived.Deep.RegionHeld3
import Derived.Deep.DrawnRows
import Derived.Lib.IndexMore
import Derived.Deep.AppendLies
import Derived.BigQuiet
import Derived.Deep.Slices
import Derived.SizedLaws
import Derived.ChangeMaps5
import Derived.Test.YtjanfdkbficmbaaGreatDoorA2
set_option linter.unusedVariables false
set_option maxHeartbeats 8000000
set_option maxRecDepth 100000
/- Walks: the reference's Div, of a dividend that is not negative or that the divisor divides. -/
namespace Go.Proofs.YtjanfdkbficmbaaGreatDoor
open Go Go.RowKit Bn
attribute [local go_sem ↓] Go.wp_at_zero Go.wp_at_succ
theorem r_neg_e (w : World) (b : Bool) (A : Option Addr) (n c : Nat) (l : List Nat) (s : Bool) (wa : Wd w A n c l) (hn : n ≤ 1099511627776) (hs : WD.s ⟨b, l⟩ = s) :
    Calls Tryz.prog 75 #[.agg #[.bool b, .slice A n c]] w (RetV w (.bool s)) := by subst hs; exact r_neg_c w b A n c l wa hn
theorem r_sign_x (w : World) (b : Bool) (A : Option Addr) (n c : Nat) (l : List Nat) (s : Int) (wa : Wd w A n c l) (hn : n ≤ 1099511627000) (hs : (WD.z ⟨b, l⟩).sign = s) :
    Calls Tryz.prog 48 #[.agg #[.bool b, .slice A n c]] w (RetV w (.int .i64 s)) := by subst hs; exact r_sign_c w b A n c l wa hn
theorem r_divide_e (w : World) (A : Option Addr) (n c : Nat) (l : List Nat) (wa : Wd w A n c l) (hn : n ≤ 1000000000000) (A' : Option Addr) (n' c' : Nat) (l' : List Nat) (wb : Wd w A' n' c' l') (hn' : n' ≤ 1000000000000) (x y : Nat) (hx : val l = x) (hy : val l' = y) (h0 : y ≠ 0) :
    Calls Tryz.prog 99 #[.slice A n c, .slice A' n' c'] w (RetD w x y) := by subst hx hy; exact r_divide_c w A n c l wa hn A' n' c' l' wb hn' h0
def RetDivR (w : World) (q r : Int) (e : Ending) (w' : World) : Prop := ∃ A1 n1 c1 A2 n2 c2, e = .returned (.tuple #[.agg #[.bool (wh q).neg, .slice A1 n1 c1], .agg #[.bool (wh r).neg, .slice A2 n2 c2], .int .i64 0]) ∧ Wd w' A1 n1 c1 (wh q).mag ∧ Wd w' A2 n2 c2 (wh r).mag ∧ Below w.heap.size w w'
theorem r_div_C (w : World) (b : Bool) (A : Option Addr) (n c : Nat) (l : List Nat) (wa : Wd w A n c l) (hn : n ≤ 1000000000000) (b' : Bool) (A' : Option Addr) (n' c' : Nat) (l' : List Nat) (wb : Wd w A' n' c' l') (hn' : n' ≤ 1000000000000) (h0 : WD.z ⟨b', l'⟩ ≠ 0) (hr0 : WD.z ⟨b, l⟩ % WD.z ⟨b', l'⟩ = 0) :
    Calls Tryz.prog 78 #[.agg #[.bool b, .slice A n c], .agg #[.bool b', .slice A' n' c']] w (RetDivR w (WD.z ⟨b, l⟩ / WD.z ⟨b', l'⟩) (WD.z ⟨b, l⟩ % WD.z ⟨b', l'⟩)) := by
  have HL := Lib.hid wa.2.1
  have HL' := Lib.hid wb.2.1
  obtain ⟨s0, hs0'⟩ : ∃ s, (WD.z ⟨b', l'⟩).sign = s := ⟨_, rfl⟩
  have es0 : ((s0 : Int) == 0) = false := by simp; rintro rfl; exact h0 (Int.sign_eq_zero_iff_zero.1 hs0')
  have HSG := Lib.hid hs0'
  clear hs0'
  have hd0 : val (WD.m ⟨b', l'⟩) ∣ val (WD.m ⟨b, l⟩) := by
    rw [← z_nat ⟨b, l⟩, ← z_nat ⟨b', l'⟩]
    exact Int.natAbs_dvd_natAbs.2 (Int.dvd_of_emod_eq_zero hr0)
  rw [WD.z_eq] at h0 ⊢
  rw [WD.z_eq ⟨b', l'⟩]
  have hv2 : val (WD.m ⟨b', l'⟩) ≠ 0 := by intro e; rw [e] at h0; exact h0 (by cases (WD.s ⟨b', l'⟩) <;> rfl)
  obtain ⟨sa, hsa⟩ : ∃ s, WD.s ⟨b, l⟩ = s := ⟨_, rfl⟩
  obtain ⟨sb, hsb⟩ : ∃ s, WD.s ⟨b', l'⟩ = s := ⟨_, rfl⟩
  rw [hsa, hsb]
  obtain ⟨x, hx⟩ : ∃ x, val (WD.m ⟨b, l⟩) = x := ⟨_, rfl⟩
  obtain ⟨y, hy⟩ : ∃ y, val (WD.m ⟨b', l'⟩) = y := ⟨_, rfl⟩
  rw [hx, hy]
  rw [hx, hy] at hd0
  have HS := Lib.hid (And.intro hsa hsb)
  have HX := Lib.hid (And.intro hx hy)
  have HY := Lib.hid (show y ≠ 0 from hy ▸ hv2)
  have HR0 := Lib.hid (Nat.mod_eq_zero_of_dvd hd0)
  clear hsa hsb hx hy hv2 h0 hr0 hd0
  go_enter Tryz.func78, Tryz.ntmps78
  go_wp2_with fail
  have b0 : Below w.heap.size w ((((w.alloc (.cells #[.bool b, .slice A n c] 52)).alloc (.cells #[.bool b', .slice A' n' c'] 52)).alloc (.cells #[.bool false, .slice none 0 0] 52)).alloc (.cells #[.bool false, .slice none 0 0] 52)) := (((((Below.refl _ _).alloc (Nat.le_refl _) _).alloc (by simp) _).alloc (by simp; omega) _).alloc (by simp; omega) _)
  generalize hW0 : ((((w.alloc (.cells #[.bool b, .slice A n c] 52)).alloc (.cells #[.bool b', .slice A' n' c'] 52)).alloc (.cells #[.bool false, .slice none 0 0] 52)).alloc (.cells #[.bool false, .slice none 0 0] 52)) = W0 at b0 ⊢
  have c00 : W0.cell? ⟨w.heap.size, 0, none⟩ = some (.bool b) := by subst hW0; simp [go_sem]
  have f00 : W0.frozen? ⟨w.heap.size, 0, none⟩ = false := by subst hW0; simp [go_sem]
  have c01 : W0.cell? ⟨w.heap.size, 1, none⟩ = some (.slice A n c) := by subst hW0; simp [go_sem]
  have f01 : W0.frozen? ⟨w.heap.size, 1, none⟩ = false := by subst hW0; simp [go_sem]
  have c10 : W0.cell? ⟨w.heap.size + 1, 0, none⟩ = some (.bool b') := by subst hW0; simp [go_sem]
  have f10 : W0.frozen? ⟨w.heap.size + 1, 0, none⟩ = false := by subst hW0; simp [go_sem]
  have c11 : W0.cell? ⟨w.heap.size + 1, 1, none⟩ = some (.slice A' n' c') := by subst hW0; simp [go_sem]
  have f11 : W0.frozen? ⟨w.heap.size + 1, 1, none⟩ = false := by subst hW0; simp [go_sem]
  have c20 : W0.cell? ⟨w.heap.size + 1 + 1, 0, none⟩ = some (.bool false) := by subst hW0; simp [go_sem]
  have f20 : W0.frozen? ⟨w.heap.size + 1 + 1, 0, none⟩ = false := by subst hW0; simp [go_sem]
  have c21 : W0.cell? ⟨w.heap.size + 1 + 1, 1, none⟩ = some (.slice none 0 0) := by subst hW0; simp [go_sem]
  have f21 : W0.frozen? ⟨w.heap.size + 1 + 1, 1, none⟩ = false := by subst hW0; simp [go_sem]
  have c30 : W0.cell? ⟨w.heap.size + 1 + 1 + 1, 0, none⟩ = some (.bool false) := by subst hW0; simp [go_sem]
  have f30 : W0.frozen? ⟨w.heap.size + 1 + 1 + 1, 0, none⟩ = false := by subst hW0; simp [go_sem]
  have c31 : W0.cell? ⟨w.heap.size + 1 + 1 + 1, 1, none⟩ = some (.slice none 0 0) := by subst hW0; simp [go_sem]
  have f31 : W0.frozen? ⟨w.heap.size + 1 + 1 + 1, 1, none⟩ = false := by subst hW0; simp [go_sem]
  have x0 : Box W0 w.heap.size 52 := by subst hW0; exact (((boxAt _ _ _ (by simp)).alloc _).alloc _).alloc _
  have x1 : Box W0 (w.heap.size + 1) 52 := by subst hW0; exact ((boxAt _ _ _ (by simp)).alloc _).alloc _
  have x2 : Box W0 (w.heap.size + 1 + 1) 52 := by subst hW0; exact (boxAt _ _ _ (by simp)).alloc _
  have x3 : Box W0 (w.heap.size + 1 + 1 + 1) 52 := by subst hW0; exact boxAt _ _ _ (by simp)
  have hm0 : Made (w.heap.size + 1 + 1) (w.heap.size + 1 + 1 + 1 + 1) 2 W0 := by subst hW0; exact made2 (by simp) rfl
  have hs0 : w.heap.size + 1 + 1 + 1 + 1 ≤ W0.heap.size := by subst hW0; simp
  clear hW0
  have wa := wa.belw b0
  have wb := wb.belw b0
  have r0 : Below W0.heap.size W0 W0 := brefl _
  go_wp2_with (first
    | (go_at_call 48; (with_reducible refine (r_sign_x _ b' A' n' c' l' s0 ?_ ?_ ?_).mono ?_); (exact wb); (omega); (exact HSG.out); rintro e w1 ⟨rfl, hb1⟩; have r1 := bnext r0 hb1; replace wa := wa.belw hb1; replace wb := wb.belw hb1; (try clear sc sf sr sz); obtain ⟨⟨sc, sf⟩, sr, sz⟩ := Seen.of (by omega) hs0 hm0 r1))
  (try clear sc sf sr sz)
  have hRB : w.heap.size + 1 + 1 ≤ w.heap.size + 1 + 1 + 1 + 1 := by omega
  go_region_held3 (fun w' => Sees (w.heap.size + 1 + 1) W0 w') (first | exact Sees.of (Nat.le_trans hRB hs0) (by assumption) | exact Sees.of (Nat.le_trans hRB hs0) (below_drewN (by assumption) _))
    (first
      | (go_at_call 74; (with_reducible refine (r_mag_c _ b A n c l ?_ ?_).mono ?_); (exact wa); (omega); rintro e w2 ⟨A2, n2, c2, rfl, h2, hb2⟩; replace hb2 := bnext (below_drewN (brefl _) 1) hb2; have r2 := bnext r1 hb2; replace wa := wa.belw hb2; replace wb := wb.belw hb2)
      | (go_at_call 74; (with_reducible refine (r_mag_c _ b' A' n' c' l' ?_ ?_).mono ?_); (exact wb); (omega); rintro e w3 ⟨A3, n3, c3, rfl, h3, hb3⟩; have r3 := bnext r2 hb3; replace wa := wa.belw hb3; replace wb := wb.belw hb3; replace h2 := h2.belw hb3)
      | (go_at_call 99; (with_reducible refine (r_divide_e _ A2 n2 c2 (WD.m ⟨b, l⟩) ?_ ?_ A3 n3 c3 (WD.m ⟨b', l'⟩) ?_ ?_ x y ?_ ?_ ?_).mono ?_); (exact h2); (exact h2.m_len (by rw [← HL.out]; exact hn)); (exact h3); (exact h3.m_len (by rw [← HL'.out]; exact hn')); (exact HX.out.1); (exact HX.out.2); (exact HY.out); rintro e w4 ⟨A4, n4, c4, A5, n5, c5, rfl, h4, h5, hb4⟩; have r4 := bnext r3 hb4; replace wa := wa.belw hb4; replace wb := wb.belw hb4; replace h2 := h2.belw hb4; replace h3 := h3.belw hb4))
  obtain ⟨⟨sc, sf⟩, sr, sz⟩ := Seen.of (by omega) hs0 hm0 r4
  clear hRB
  have hn4 : n4 ≤ 1000000000000 := by
    rw [h4.2.1]; exact dlen (Nat.lt_of_le_of_lt (Nat.div_le_self _ _) (HX.out.1 ▸ h2.vlt (Nat.le_refl _))) (h2.m_len (by rw [← HL.out]; exact hn))
  have hn5 : n5 = 0 := by rw [h5.2.1, HR0.out, digs_zero]; rfl
  subst hn5
  cases sa
  · go_wp2_with (first
      | (go_at_call 75; (with_reducible refine (r_neg_e _ b A n c l false ?_ ?_ ?_).mono ?_); (exact wa); (omega); (exact HS.out.1); rintro e w5 ⟨rfl, hb5⟩; have r5 := bnext r4 hb5; replace wa := wa.belw hb5; replace wb := wb.belw hb5; replace h2 := h2.belw hb5; replace h3 := h3.belw hb5; replace h4 := h4.belw hb5; replace h5 := h5.belw hb5; (try clear sc sf sr sz); obtain ⟨⟨sc, sf⟩, sr, sz⟩ := Seen.of (by omega) hs0 hm0 r5))
    have HZ := Lib.hid (div_plain (sa := false) (sb := sb) (x := x) HY.out (.inr HR0.out))
    (try clear sc sf sr sz)
    have hRB : w.heap.size + 1 + 1 ≤ w.heap.size + 1 + 1 + 1 + 1 := by omega
    go_region_held3 (fun w' => Sees (w.heap.size + 1 + 1) W0 w') (first | exact Sees.of (Nat.le_trans hRB hs0) (by assumption) | exact Sees.of (Nat.le_trans hRB hs0) (below_drewN (by assumption) _) | exact (Sees.set (Sees.of (Nat.le_trans hRB hs0) (by assumption)) (by simp)) | exact (Sees.set (Sees.set (Sees.of (Nat.le_trans hRB hs0) (by assumption)) (by simp)) (by simp)) | exact (Sees.set (Sees.set (Sees.set (Sees.of (Nat.le_trans hRB hs0) (by assumption)) (by simp)) (by simp)) (by simp)) | exact (Sees.set (Sees.set (Sees.set (Sees.set (Sees.of (Nat.le_trans hRB hs0) (by assumption)) (by simp)) (by simp)) (by simp)) (by simp)))
      (first
        | (go_at_call 75; (with_reducible refine (r_neg_e _ b A n c l false ?_ ?_ ?_).mono ?_); (exact wa); (omega); (exact HS.out.1); rintro e w6 ⟨rfl, hb6⟩; replace hb6 := bnext (below_drewN (brefl _) 1) hb6; have r6 := bnext r5 hb6; replace wa := wa.belw hb6; replace wb := wb.belw hb6; replace h2 := h2.belw hb6; replace h3 := h3.belw hb6; replace h4 := h4.belw hb6; replace h5 := h5.belw hb6)
        | (go_at_call 75; (with_reducible refine (r_neg_e _ b' A' n' c' l' sb ?_ ?_ ?_).mono ?_); (exact wb); (omega); (exact HS.out.2); rintro e w7 ⟨rfl, hb7⟩; have r7 := bnext r6 hb7; replace wa := wa.belw hb7; replace wb := wb.belw hb7; replace h2 := h2.belw hb7; replace h3 := h3.belw hb7; replace h4 := h4.belw hb7; replace h5 := h5.belw hb7)
        | (go_at_call 50; (with_reducible refine (r_form_e _ sb A4 n4 c4 (digs (x / y)) (sgn false x / sgn sb y) ?_ ?_ ?_).mono ?_); (exact h4); (omega); (rw [HZ.out.1, val_digs]; cases sb <;> rfl); rintro e w8 ⟨A8, n8, c8, rfl, h8, hb8⟩; have r8 := bnext r7 hb8; replace wa := wa.belw hb8; replace wb := wb.belw hb8; replace h2 := h2.belw hb8; replace h3 := h3.belw hb8; replace h4 := h4.belw hb8; replace h5 := h5.belw hb8)
        | (go_at_call 50; (with_reducible refine (r_form_e _ false A5 0 c5 (digs (x % y)) (sgn false x % sgn sb y) ?_ ?_ ?_).mono ?_); (exact h5); (omega); (rw [HZ.out.2, val_digs]; rfl); rintro e w9 ⟨A9, n9, c9, rfl, h9, hb9⟩; have r9 := bnext r8 hb9; replace wa := wa.belw hb9; replace wb := wb.belw hb9; replace h2 := h2.belw hb9; replace h3 := h3.belw hb9; replace h4 := h4.belw hb9; replace h5 := h5.belw hb9; replace h8 := h8.belw hb9; obtain ⟨⟨sc, sf⟩, sr, sz⟩ := Seen.of (by omega) hs0 hm0 r9))
    clear hRB
    go_wp2_with fail
    refine bodyPost_ret (v := .tuple #[.agg #[.bool _, .slice A8 n8 c8], .agg #[.bool _, .slice A9 n9 c9], .int .i64 0]) (by simp [results, Tryz.results78, go_sem, sr]; first | rfl | exact ⟨rfl, rfl⟩) rfl ?_
    have y2 := x2.below r9
    have y3 := x3.below r9
    refine ⟨A8, n8, c8, A9, n9, c9, rfl, ?_, ?_, ?_⟩
    · exact h8.keep (kp4 y2 y3 (by decide) (by decide) _ _ _ _ _ _ _ _)
    · exact h9.keep (kp4 y2 y3 (by decide) (by decide) _ _ _ _ _ _ _ _)
    · exact ((((b0.trans (r9.mono b0.size)).setCell (by dsimp only; omega) _).setCell (by dsimp only; omega) _).setCell (by dsimp only; omega) _).setCell (by dsimp only; omega) _
  · go_wp2_with (first
      | (go_at_call 75; (with_reducible refine (r_neg_e _ b A n c l true ?_ ?_ ?_).mono ?_); (exact wa); (omega); (exact HS.out.1); rintro e w5 ⟨rfl, hb5⟩; have r5 := bnext r4 hb5; replace wa := wa.belw hb5; replace wb := wb.belw hb5; replace h2 := h2.belw hb5; replace h3 := h3.belw hb5; replace h4 := h4.belw hb5; replace h5 := h5.belw hb5; (try clear sc sf sr sz); obtain ⟨⟨sc, sf⟩, sr, sz⟩ := Seen.of (by omega) hs0 hm0 r5))
    have HZ := Lib.hid (div_plain (sa := true) (sb := sb) (x := x) HY.out (.inr HR0.out))
    (try clear sc sf sr sz)
    have hRB : w.heap.size + 1 + 1 ≤ w.heap.size + 1 + 1 + 1 + 1 := by omega
    go_region_held3 (fun w' => Sees (w.heap.size + 1 + 1) W0 w') (first | exact Sees.of (Nat.le_trans hRB hs0) (by assumption) | exact Sees.of (Nat.le_trans hRB hs0) (below_drewN (by assumption) _) | exact (Sees.set (Sees.of (Nat.le_trans hRB hs0) (by assumption)) (by simp)) | exact (Sees.set (Sees.set (Sees.of (Nat.le_trans hRB hs0) (by assumption)) (by simp)) (by simp)) | exact (Sees.set (Sees.set (Sees.set (Sees.of (Nat.le_trans hRB hs0) (by assumption)) (by simp)) (by simp)) (by simp)) | exact (Sees.set (Sees.set (Sees.set (Sees.set (Sees.of (Nat.le_trans hRB hs0) (by assumption)) (by simp)) (by simp)) (by simp)) (by simp)))
      (first
        | (go_at_call 75; (with_reducible refine (r_neg_e _ b A n c l true ?_ ?_ ?_).mono ?_); (exact wa); (omega); (exact HS.out.1); rintro e w6 ⟨rfl, hb6⟩; replace hb6 := bnext (below_drewN (brefl _) 1) hb6; have r6 := bnext r5 hb6; replace wa := wa.belw hb6; replace wb := wb.belw hb6; replace h2 := h2.belw hb6; replace h3 := h3.belw hb6; replace h4 := h4.belw hb6; replace h5 := h5.belw hb6)
        | (go_at_call 75; (with_reducible refine (r_neg_e _ b' A' n' c' l' sb ?_ ?_ ?_).mono ?_); (exact wb); (omega); (exact HS.out.2); rintro e w7 ⟨rfl, hb7⟩; have r7 := bnext r6 hb7; replace wa := wa.belw hb7; replace wb := wb.belw hb7; replace h2 := h2.belw hb7; replace h3 := h3.belw hb7; replace h4 := h4.belw hb7; replace h5 := h5.belw hb7)
        | (go_at_call 50; (with_reducible refine (r_form_e _ (!sb) A4 n4 c4 (digs (x / y)) (sgn true x / sgn sb y) ?_ ?_ ?_).mono ?_); (exact h4); (omega); (rw [HZ.out.1, val_digs]; cases sb <;> rfl); rintro e w8 ⟨A8, n8, c8, rfl, h8, hb8⟩; have r8 := bnext r7 hb8; replace wa := wa.belw hb8; replace wb := wb.belw hb8; replace h2 := h2.belw hb8; replace h3 := h3.belw hb8; replace h4 := h4.belw hb8; replace h5 := h5.belw hb8)
        | (go_at_call 50; (with_reducible refine (r_form_e _ false A5 0 c5 (digs (x % y)) (sgn true x % sgn sb y) ?_ ?_ ?_).mono ?_); (exact h5); (omega); (rw [HZ.out.2, val_digs]; rfl); rintro e w9 ⟨A9, n9, c9, rfl, h9, hb9⟩; have r9 := bnext r8 hb9; replace wa := wa.belw hb9; replace wb := wb.belw hb9; replace h2 := h2.belw hb9; replace h3 := h3.belw hb9; replace h4 := h4.belw hb9; replace h5 := h5.belw hb9; replace h8 := h8.belw hb9; obtain ⟨⟨sc, sf⟩, sr, sz⟩ := Seen.of (by omega) hs0 hm0 r9))
    clear hRB
    go_wp2_with fail
    refine bodyPost_ret (v := .tuple #[.agg #[.bool _, .slice A8 n8 c8], .agg #[.bool _, .slice A9 n9 c9], .int .i64 0]) (by simp [results, Tryz.results78, go_sem, sr]; first | rfl | exact ⟨rfl, rfl⟩) rfl ?_
    have y2 := x2.below r9
    have y3 := x3.below r9
    refine ⟨A8, n8, c8, A9, n9, c9, rfl, ?_, ?_, ?_⟩
    · exact h8.keep (kp4 y2 y3 (by decide) (by decide) _ _ _ _ _ _ _ _)
    · exact h9.keep (kp4 y2 y3 (by decide) (by decide) _ _ _ _ _ _ _ _)
    · exact ((((b0.trans (r9.mono b0.size)).setCell (by dsimp only; omega) _).setCell (by dsimp only; omega) _).setCell (by dsimp only; omega) _).setCell (by dsimp only; omega) _
theorem r01_div (w : World) (b : Bool) (A : Option Addr) (n c : Nat) (z : Int) (k : Nat) (h : IZ w b A n c z k) (b' : Bool) (A' : Option Addr) (n' c' : Nat) (z' : Int) (k' : Nat) (h' : IZ w b' A' n' c' z' k') (hk : k + k' ≤ 1000000000) (h0 : z' ≠ 0) (hr : z % z' = 0) : Calls Tryz.prog 78 #[.agg #[.bool b, .slice A n c], .agg #[.bool b', .slice A' n' c']] w (RetDv w (.int .i64 0) (z / z') (z % z') (k + k')) := by
  have hz := h.mono (Nat.le_add_right k k') |>.lt
  have hz' := h'.mono (Nat.le_add_left k' k) |>.lt
  obtain ⟨l, h1, rfl, h3⟩ := h
  obtain ⟨l', h1', rfl, h3'⟩ := h'
  refine (r_div_C w b A n c l h1 (by omega) b' A' n' c' l' h1' (by omega) h0 hr).mono fun _ _ r => ?_
  obtain ⟨A1, n1, c1, A2, n2, c2, rfl, r1, r2, r3⟩ := r
  refine ⟨_, A1, n1, c1, _, A2, n2, c2, rfl, IV.mk_ r1 rfl ?_, IV.mk_ r2 rfl ?_, r3⟩
  · exact Nat.lt_of_le_of_lt (Int.natAbs_ediv_le_natAbs _ _) hz
  · have e1 := Int.emod_nonneg (WD.z ⟨b, l⟩) h0
    have e2 := Int.emod_lt (WD.z ⟨b, l⟩) h0
    omega
end Go.Proofs.YtjanfdkbficmbaaGreatDoor

/- Walks: the reference: fractions in lowest terms. -/
namespace Go.Proofs.YtjanfdkbficmbaaGreatDoor
open Go Go.RowKit Bn
attribute [local go_sem ↓] Go.wp_at_zero Go.wp_at_succ
theorem r01_sign_e (w : World) (b : Bool) (A : Option Addr) (n c : Nat) (z : Int) (k : Nat) (h : IZ w b A n c z k) (s : Int) (hs : z.sign = s) (hk : k ≤ 1000000000) : Calls Tryz.prog 48 #[.agg #[.bool b, .slice A n c]] w (RetV w (.int .i64 s)) := by
  subst hs; exact r01_sign w b A n c z k h hk
theorem form_any {z d : Int} {q : Rat} (hz : z ≠ 0) (hd : 0 < d) (hq : Rat.divInt z d = q) :
    (rd q).num = (wh (z / ((Nat.gcd z.natAbs d.natAbs : Nat) : Int))).mag ∧ (rd q).den = (wh (d / ((Nat.gcd z.natAbs d.natAbs : Nat) : Int))).mag ∧ (rd q).neg = (wh (z / ((Nat.gcd z.natAbs d.natAbs : Nat) : Int))).neg := by
  rw [← hq, rd_divInt hz hd, wh_div _ hd]
  have hg : 0 < Nat.gcd z.natAbs d.natAbs := Nat.gcd_pos_of_pos_right _ (by omega)
  have hdv : ((Nat.gcd z.natAbs d.natAbs : Nat) : Int) ∣ z := Int.ofNat_dvd_left.2 (Nat.gcd_dvd_left _ _)
  generalize Nat.gcd z.natAbs d.natAbs = g at *
  obtain ⟨m, rfl⟩ := hdv
  have e : (g : Int) * m / (g : Int) = m := Int.mul_ediv_cancel_left _ (by omega)
  have e2 : ((g : Int) * m).natAbs / g = m.natAbs := by rw [Int.natAbs_mul, Int.natAbs_natCast]; exact Nat.mul_div_cancel_left _ hg
  rw [e, e2]
  refine ⟨rfl, rfl, ?_⟩
  unfold wh
  simp only [decide_eq_decide]
  constructor
  · intro h; rcases (show m < 0 ∨ 0 ≤ m by omega) with h1 | h1; exact h1; exact absurd (Int.mul_nonneg (Int.natCast_nonneg g) h1) (by omega)
  · intro h; exact Int.mul_neg_of_pos_of_neg (by omega) h
theorem g_form_0 (w : World) (b : Bool) (A : Option Addr) (n c : Nat) (z : Int) (k : Nat) (h : IZ w b A n c z k) (b' : Bool) (A' : Option Addr) (n' c' : Nat) (z' : Int) (k' : Nat) (h' : IZ w b' A' n' c' z' k') (K : Nat) (hz : z = 0) (hk : k + k' ≤ 300000000) :
  Calls Tryz.prog 49 #[.agg #[.bool b, .slice A n c], .agg #[.bool b', .slice A' n' c']] w (RetF w 0 K) := by
 have HZ := Lib.hid (show z.sign = 0 by rw [hz]; rfl)
 clear hz
 go_enter Tryz.func49, Tryz.ntmps49
 go_wp2_with fail
 (with_reducible refine (r01_sign_e _ b A n c (z) (k) ?_ (0) ?_ ?_).mono ?_); (exact (h.belw ((((Below.refl _ _).alloc (Nat.le_refl _) _).alloc (by simp) _).alloc (by simp <;> omega) _))); (exact HZ.out); (omega); rintro e w1 ⟨rfl, hb1⟩
 have q1 := ((((Below.refl _ _).alloc (Nat.le_refl _) _).alloc (by simp) _).alloc (by simp <;> omega) _).trans (hb1.mono (by simp <;> omega))
 replace h := h.belw q1
 replace h' := h'.belw q1
 have x1a : Blk w1 w.heap.size 52 #[.bool b, .slice A n c] := (((blkAt _ _ _ (by simp)).alloc _).alloc _).below hb1 (by simp <;> omega)
 have x1b := ((blkAt _ _ _ (g := w.heap.size + 1) (by simp)).alloc _).below hb1 (by simp <;> omega)
 have x1c := (blkAt _ _ _ (g := w.heap.size + 1 + 1) (by simp)).below hb1 (by simp)
 have bw1 := (brefl w).trans (q1.mono (brefl w).size)
 have lw1 : w.heap.size + 3 ≤ w1.heap.size := by have := hb1.size; simp at this; omega
 clear q1
 obtain ⟨cx1ca, cx1cb, cx1cc⟩ := x1c.c3
 obtain ⟨fx1ca, fx1cb, fx1cc⟩ := x1c.f3
 obtain ⟨lx1ca, lx1cb, lx1cc, lx1cd⟩ := lts2 x1c.lt
 go_wp2_with fail
 refine bodyPost_ret (v := .agg #[.bool false, .slice none 0 0, .slice none 0 0]) (by simp [results, Tryz.results49, go_sem, *] <;> first | rfl | exact ⟨rfl, rfl⟩) rfl ?_
 exact ⟨false, none, 0, 0, none, 0, 0, rfl, QV.zero _ _, (((bw1.sc (w.heap.size + 1 + 1) 0 (by omega) (.bool false)).sc (w.heap.size + 1 + 1) 1 (by omega) (.slice none 0 0)).sc (w.heap.size + 1 + 1) 2 (by omega) (.slice none 0 0))⟩
theorem g_form_p (w : World)  (b : Bool) (A : Option Addr) (n c : Nat) (z : Int) (k : Nat) (h : IZ w b A n c z k) (b' : Bool) (A' : Option Addr) (n' c' : Nat) (z' : Int) (k' : Nat) (h' : IZ w b' A' n' c' z' k') (q : Rat) (K : Nat) (hz : z ≠ 0) (hd : z'.sign = 1) (hq : Rat.divInt z z' = q) (hs : Sz q K) (hk : k + k' ≤ 300000000) :
  Calls Tryz.prog 49 #[.agg #[.bool b, .slice A n c], .agg #[.bool b', .slice A' n' c']] w (RetF w q K) := by
 obtain ⟨s, hs1⟩ : ∃ s, z.sign = s := ⟨_, rfl⟩
 have e0 : ((s : Int) == 0) = false := by simp; rintro rfl; exact hz (Int.sign_eq_zero_iff_zero.1 hs1)
 have HZ := Lib.hid hs1
 have HD := Lib.hid hd
 have HN := Lib.hid (show z ≠ 0 by omega)
 have HP := Lib.hid (show 0 < z' by exact sign_pos hd)
 have HG := Lib.hid (show ((Nat.gcd (z).natAbs (z').natAbs : Nat) : Int) ≠ 0 from gcd_ne HP.out)
 have HM1 := Lib.hid (show z % ((Nat.gcd (z).natAbs (z').natAbs : Nat) : Int) = 0 from Int.emod_eq_zero_of_dvd (Int.ofNat_dvd_left.2 (Nat.gcd_dvd_left _ _)))
 have HM2 := Lib.hid (show z' % ((Nat.gcd (z).natAbs (z').natAbs : Nat) : Int) = 0 from Int.emod_eq_zero_of_dvd (Int.ofNat_dvd_left.2 (Nat.gcd_dvd_right _ _)))
 have HQ := Lib.hid (show Rat.divInt z z' = q by exact hq)
 have HS := Lib.hid hs
 clear hz hd hq hs hs1
 go_enter Tryz.func49, Tryz.ntmps49
 go_wp2_with fail
 (with_reducible refine (r01_sign_e _ b A n c (z) (k) ?_ (s) ?_ ?_).mono ?_); (exact (h.belw ((((Below.refl _ _).alloc (Nat.le_refl _) _).alloc (by simp) _).alloc (by simp <;> omega) _))); (exact HZ.out); (omega); rintro e w1 ⟨rfl, hb1⟩
 have q1 := ((((Below.refl _ _).alloc (Nat.le_refl _) _).alloc (by simp) _).alloc (by simp <;> omega) _).trans (hb1.mono (by simp <;> omega))
 replace h := h.belw q1
 replace h' := h'.belw q1
 have x1a : Blk w1 w.heap.size 52 #[.bool b, .slice A n c] := (((blkAt _ _ _ (by simp)).alloc _).alloc _).below hb1 (by simp <;> omega)
 have x1b := ((blkAt _ _ _ (g := w.heap.size + 1) (by simp)).alloc _).below hb1 (by simp <;> omega)
 have x1c := (blkAt _ _ _ (g := w.heap.size + 1 + 1) (by simp)).below hb1 (by simp)
 have bw1 := (brefl w).trans (q1.mono (brefl w).size)
 have lw1 : w.heap.size + 3 ≤ w1.heap.size := by have := hb1.size; simp at this; omega
 clear q1
 obtain ⟨cx1ba, cx1bb⟩ := x1b.c2
 obtain ⟨lx1ba, lx1bb, lx1bc, lx1bd⟩ := lts1 x1b.lt
 go_wp2_with fail
 (with_reducible refine (r01_sign_e _ b' A' n' c' (z') (k') ?_ (1) ?_ ?_).mono ?_); (exact h'); (exact HD.out); (omega); rintro e w2 ⟨rfl, q2⟩
 clear cx1ba cx1bb lx1ba lx1bb lx1bc lx1bd
 replace h := h.belw q2
 replace h' := h'.belw q2
 replace x1a := x1a.b q2
 replace x1b := x1b.b q2
 replace x1c := x1c.b q2
 have bw2 := bw1.trans (q2.mono bw1.size)
 have lw2 := q2.size
 clear q2 bw1
 obtain ⟨cx1aa, cx1ab⟩ := x1a.c2
 obtain ⟨lx1aa, lx1ab, lx1ac, lx1ad⟩ := lts0 x1a.lt
 obtain ⟨cx1ba, cx1bb⟩ := x1b.c2
 obtain ⟨lx1ba, lx1bb, lx1bc, lx1bd⟩ := lts1 x1b.lt
 go_wp2_with fail
 (with_reducible refine (r01_gcd _ b A n c (z) (k) ?_ b' A' n' c' (z') (k') ?_ ?_).mono ?_); (exact h); (exact h'); (first | omega | decide | assumption); rintro e w3 ⟨b3, A3, n3, c3, rfl, h3, q3⟩
 clear cx1aa cx1ab lx1aa lx1ab lx1ac lx1ad cx1ba cx1bb lx1ba lx1bb lx1bc lx1bd
 replace h := h.belw q3
 replace h' := h'.belw q3
 replace x1a := x1a.b q3
 replace x1b := x1b.b q3
 replace x1c := x1c.b q3
 have bw3 := bw2.trans (q3.mono bw2.size)
 have lw3 := q3.size
 clear q3 bw2
 obtain ⟨cx1aa, cx1ab⟩ := x1a.c2
 obtain ⟨lx1aa, lx1ab, lx1ac, lx1ad⟩ := lts0 x1a.lt
 go_wp2_with fail
 (with_reducible refine (r01_div _ b A n c (z) (k) ?_ b3 A3 n3 c3 ((Nat.gcd ((z)).natAbs ((z')).natAbs : Nat)) ((k) + (k')) ?_  ?_ ?_ ?_).mono ?_); (exact (h.belw ((Below.refl _ _).alloc (Nat.le_refl _) _))); (exact (h3.belw ((Below.refl _ _).alloc (Nat.le_refl _) _)).iz); (omega); (exact HG.out); (exact HM1.out); rintro e w4 ⟨b4, A4, n4, c4, b'4, A'4, n'4, c'4, rfl, h4, h'4, hb4⟩
 clear cx1aa cx1ab lx1aa lx1ab lx1ac lx1ad
 have q4 := ((Below.refl _ _).alloc (Nat.le_refl _) _).trans (hb4.mono (by simp))
 replace h := h.belw q4
 replace h' := h'.belw q4
 replace h3 := h3.belw q4
 replace x1a := x1a.b q4
 replace x1b := x1b.b q4
 replace x1c := x1c.b q4
 have x4a : Blk w4 w3.heap.size 52 #[.bool b3, .slice A3 n3 c3] := (blkAt _ _ _ (by simp)).below hb4 (by simp)
 have bw4 := bw3.trans (q4.mono bw3.size)
 have lw4 : w3.heap.size + 1 ≤ w4.heap.size := by have := hb4.size; simp at this; omega
 clear q4 bw3
 obtain ⟨cx1ba, cx1bb⟩ := x1b.c2
 obtain ⟨lx1ba, lx1bb, lx1bc, lx1bd⟩ := lts1 x1b.lt
 obtain ⟨cx4aa, cx4ab⟩ := x4a.c2
 obtain ⟨lx4aa, lx4ab, lx4ac, lx4ad⟩ := lts0 x4a.lt
 go_wp2_with fail
 (with_reducible refine (r01_div _ b' A' n' c' (z') (k') ?_ b3 A3 n3 c3 ((Nat.gcd ((z)).natAbs ((z')).natAbs : Nat)) ((k) + (k')) ?_  ?_ ?_ ?_).mono ?_); (exact (h'.belw (((Below.refl _ _).alloc (Nat.le_refl _) _).alloc (by simp) _))); (exact (h3.belw (((Below.refl _ _).alloc (Nat.le_refl _) _).alloc (by simp) _)).iz); (omega); (exact HG.out); (exact HM2.out); rintro e w5 ⟨b5, A5, n5, c5, b'5, A'5, n'5, c'5, rfl, h5, h'5, hb5⟩
 clear cx1ba cx1bb lx1ba lx1bb lx1bc lx1bd cx4aa cx4ab lx4aa lx4ab lx4ac lx4ad
 have q5 := (((Below.refl _ _).alloc (Nat.le_refl _) _).alloc (by simp) _).trans (hb5.mono (by simp <;> omega))
 replace h := h.belw q5
 replace h' := h'.belw q5
 replace h3 := h3.belw q5
 replace h4 := h4.belw q5
 replace h'4 := h'4.belw q5
 replace x1a := x1a.b q5
 replace x1b := x1b.b q5
 replace x1c := x1c.b q5
 replace x4a := x4a.b q5
 have x5a : Blk w5 w4.heap.size 52 #[.bool b4, .slice A4 n4 c4] := ((blkAt _ _ _ (by simp)).alloc _).below hb5 (by simp <;> omega)
 have x5b := (blkAt _ _ _ (g := w4.heap.size + 1) (by simp)).below hb5 (by simp)
 have bw5 := bw4.trans (q5.mono bw4.size)
 have lw5 : w4.heap.size + 2 ≤ w5.heap.size := by have := hb5.size; simp at this; omega
 clear q5 bw4
 obtain ⟨cx1ca, cx1cb, cx1cc⟩ := x1c.c3
 obtain ⟨fx1ca, fx1cb, fx1cc⟩ := x1c.f3
 obtain ⟨lx1ca, lx1cb, lx1cc, lx1cd⟩ := lts2 x1c.lt
 obtain ⟨cx5aa, cx5ab⟩ := x5a.c2
 obtain ⟨lx5aa, lx5ab, lx5ac, lx5ad⟩ := lts0 x5a.lt
 go_wp2_with fail
 refine bodyPost_ret (v := .agg #[.bool b4, .slice A4 n4 c4, .slice A5 n5 c5]) (by simp [results, Tryz.results49, go_sem, *] <;> first | rfl | exact ⟨rfl, rfl⟩) rfl ?_
 obtain ⟨e1, e2, e3⟩ := form_any HN.out HP.out HQ.out
 exact ⟨_, _, _, _, _, _, _, rfl, QV.mk_ (by rw [e1]; exact h4.2.1.keep ((((((Kp.refl w5).sb (w.heap.size + 1 + 1) 0 x1c.box (by decide) (.bool b4)).sb (w.heap.size + 1 + 1) 1 (x1c.box.set ⟨w.heap.size + 1 + 1, 0, none⟩ (.bool b4)) (by decide) (.slice A4 n4 c4)).sb (w.heap.size + 1 + 1) 2 ((x1c.box.set ⟨w.heap.size + 1 + 1, 0, none⟩ (.bool b4)).set ⟨w.heap.size + 1 + 1, 1, none⟩ (.slice A4 n4 c4)) (by decide) (.slice A5 n5 c5)).alloc (.cells #[.bool b5, .slice A5 n5 c5] 52)).alloc (.cells #[.bool b'5, .slice A'5 n'5 c'5] 52))) (by rw [e2]; exact h5.2.1.keep ((((((Kp.refl w5).sb (w.heap.size + 1 + 1) 0 x1c.box (by decide) (.bool b4)).sb (w.heap.size + 1 + 1) 1 (x1c.box.set ⟨w.heap.size + 1 + 1, 0, none⟩ (.bool b4)) (by decide) (.slice A4 n4 c4)).sb (w.heap.size + 1 + 1) 2 ((x1c.box.set ⟨w.heap.size + 1 + 1, 0, none⟩ (.bool b4)).set ⟨w.heap.size + 1 + 1, 1, none⟩ (.slice A4 n4 c4)) (by decide) (.slice A5 n5 c5)).alloc (.cells #[.bool b5, .slice A5 n5 c5] 52)).alloc (.cells #[.bool b'5, .slice A'5 n'5 c'5] 52))) (by rw [e3]; exact h4.1.symm) HS.out, (((((bw5.sc (w.heap.size + 1 + 1) 0 (by omega) (.bool b4)).sc (w.heap.size + 1 + 1) 1 (by omega) (.slice A4 n4 c4)).sc (w.heap.size + 1 + 1) 2 (by omega) (.slice A5 n5 c5)).alloc (by first | omega | (simp <;> omega)) (.cells #[.bool b5, .slice A5 n5 c5] 52)).alloc (by first | omega | (simp <;> omega)) (.cells #[.bool b'5, .slice A'5 n'5 c'5] 52))⟩
theorem g_form_n (w : World)  (b : Bool) (A : Option Addr) (n c : Nat) (z : Int) (k : Nat) (h : IZ w b A n c z k) (b' : Bool) (A' : Option Addr) (n' c' : Nat) (z' : Int) (k' : Nat) (h' : IZ w b' A' n' c' z' k') (q : Rat) (K : Nat) (hz : z ≠ 0) (hd : z'.sign = -1) (hq : Rat.divInt z z' = q) (hs : Sz q K) (hk : k + k' ≤ 300000000) :
  Calls Tryz.prog 49 #[.agg #[.bool b, .slice A n c], .agg #[.bool b', .slice A' n' c']] w (RetF w q K) := by
 obtain ⟨s, hs1⟩ : ∃ s, z.sign = s := ⟨_, rfl⟩
 have e0 : ((s : Int) == 0) = false := by simp; rintro rfl; exact hz (Int.sign_eq_zero_iff_zero.1 hs1)
 have HZ := Lib.hid hs1
 have HD := Lib.hid hd
 have HN := Lib.hid (show (-z) ≠ 0 by omega)
 have HP := Lib.hid (show 0 < (-z') by exact sign_neg_ hd)
 have HG := Lib.hid (show ((Nat.gcd ((-z)).natAbs ((-z')).natAbs : Nat) : Int) ≠ 0 from gcd_ne HP.out)
 have HM1 := Lib.hid (show (-z) % ((Nat.gcd ((-z)).natAbs ((-z')).natAbs : Nat) : Int) = 0 from Int.emod_eq_zero_of_dvd (Int.ofNat_dvd_left.2 (Nat.gcd_dvd_left _ _)))
 have HM2 := Lib.hid (show (-z') % ((Nat.gcd ((-z)).natAbs ((-z')).natAbs : Nat) : Int) = 0 from Int.emod_eq_zero_of_dvd (Int.ofNat_dvd_left.2 (Nat.gcd_dvd_right _ _)))
 have HQ := Lib.hid (show Rat.divInt (-z) (-z') = q by rw [divInt_neg_neg _ _ (sign_ne hd)]; exact hq)
 have HS := Lib.hid hs
 clear hz hd hq hs hs1
 go_enter Tryz.func49, Tryz.ntmps49
 go_wp2_with fail
 (with_reducible refine (r01_sign_e _ b A n c (z) (k) ?_ (s) ?_ ?_).mono ?_); (exact (h.belw ((((Below.refl _ _).alloc (Nat.le_refl _) _).alloc (by simp) _).alloc (by simp <;> omega) _))); (exact HZ.out); (omega); rintro e w1 ⟨rfl, hb1⟩
 have q1 := ((((Below.refl _ _).alloc (Nat.le_refl _) _).alloc (by simp) _).alloc (by simp <;> omega) _).trans (hb1.mono (by simp <;> omega))
 replace h := h.belw q1
 replace h' := h'.belw q1
 have x1a : Blk w1 w.heap.size 52 #[.bool b, .slice A n c] := (((blkAt _ _ _ (by simp)).alloc _).alloc _).below hb1 (by simp <;> omega)
 have x1b := ((blkAt _ _ _ (g := w.heap.size + 1) (by simp)).alloc _).below hb1 (by simp <;> omega)
 have x1c := (blkAt _ _ _ (g := w.heap.size + 1 + 1) (by simp)).below hb1 (by simp)
 have bw1 := (brefl w).trans (q1.mono (brefl w).size)
 have lw1 : w.heap.size + 3 ≤ w1.heap.size := by have := hb1.size; simp at this; omega
 clear q1
 obtain ⟨cx1ba, cx1bb⟩ := x1b.c2
 obtain ⟨lx1ba, lx1bb, lx1bc, lx1bd⟩ := lts1 x1b.lt
 go_wp2_with fail
 (with_reducible refine (r01_sign_e _ b' A' n' c' (z') (k') ?_ (-1) ?_ ?_).mono ?_); (exact h'); (exact HD.out); (omega); rintro e w2 ⟨rfl, q2⟩
 clear cx1ba cx1bb lx1ba lx1bb lx1bc lx1bd
 replace h := h.belw q2
 replace h' := h'.belw q2
 replace x1a := x1a.b q2
 replace x1b := x1b.b q2
 replace x1c := x1c.b q2
 have bw2 := bw1.trans (q2.mono bw1.size)
 have lw2 := q2.size
 clear q2 bw1
 go_wp2_with fail
 obtain ⟨cx1aa, cx1ab⟩ := x1a.c2
 obtain ⟨cx1ba, cx1bb⟩ := x1b.c2
 go_cut [2] (fun s2 wx => s2 = .pointer (some ⟨w.heap.size, 0, none⟩) ∧ ∃ b8 A8 n8 c8 b9 A9 n9 c9, Blk wx w.heap.size 52 #[.bool b8, .slice A8 n8 c8] ∧ Blk wx (w.heap.size + 1) 52 #[.bool b9, .slice A9 n9 c9] ∧ Blk wx (w.heap.size + 1 + 1) 32 #[.bool false, .slice none 0 0, .slice none 0 0] ∧ IV wx b8 A8 n8 c8 (-z) k ∧ IV wx b9 A9 n9 c9 (-z') k' ∧ Below w.heap.size w wx ∧ w2.heap.size ≤ wx.heap.size)
 case first =>
  go_region_with (first
   | (go_at_call 76; (with_reducible refine (r01_neg _ b A n c (z) (k) ?_ ?_).mono ?_); (exact h); (omega); rintro e w3 ⟨b4, A4, n4, c4, rfl, h4, hb4⟩; replace hb4 := bnext (below_drewN (brefl _) 1) hb4; replace h' := h'.belw hb4; have bw4 := bw2.trans (hb4.mono bw2.size); have lw4 := hb4.size; replace x1a := x1a.b hb4; replace x1b := x1b.b hb4; replace x1c := x1c.b hb4; obtain ⟨dx1_1_0, dx1_1_1⟩ := x1b.c2)
   | (go_at_call 76; (with_reducible refine (r01_neg _ b' A' n' c' (z') (k') ?_ ?_).mono ?_); (exact h'); (omega); rintro e w4 ⟨b5, A5, n5, c5, rfl, h5, hb5⟩; replace h4 := h4.belw hb5; have bw5 := bw4.trans (hb5.mono bw4.size); have lw5 := hb5.size; replace x1a := x1a.b hb5; replace x1b := x1b.b hb5; replace x1c := x1c.b hb5; obtain ⟨ex1_0_0, ex1_0_1⟩ := x1a.c2; obtain ⟨fx1aa, fx1ab⟩ := x1a.f2; obtain ⟨ex1_1_0, ex1_1_1⟩ := x1b.c2; obtain ⟨fx1ba, fx1bb⟩ := x1b.f2))
  all_goals
   go_wp2_with fail
   go_meet
   have kp := (((((Kp.refl w4).sb w.heap.size 0 x1a.box (by decide) (.bool b4)).sb w.heap.size 1 (x1a.box.set ⟨w.heap.size, 0, none⟩ (.bool b4)) (by decide) (.slice A4 n4 c4)).sb (w.heap.size + 1) 0 ((x1b.box.set ⟨w.heap.size, 0, none⟩ (.bool b4)).set ⟨w.heap.size, 1, none⟩ (.slice A4 n4 c4)) (by decide) (.bool b5)).sb (w.heap.size + 1) 1 (((x1b.box.set ⟨w.heap.size, 0, none⟩ (.bool b4)).set ⟨w.heap.size, 1, none⟩ (.slice A4 n4 c4)).set ⟨w.heap.size + 1, 0, none⟩ (.bool b5)) (by decide) (.slice A5 n5 c5))
   exact ⟨rfl, b4, A4, n4, c4, b5, A5, n5, c5, ((((x1a.set_at 0 (.bool b4) #[.bool b4, .slice A n c] (by simp)).set_at 1 (.slice A4 n4 c4) #[.bool b4, .slice A4 n4 c4] (by simp)).fr (w.heap.size + 1) 0 (by omega) (.bool b5)).fr (w.heap.size + 1) 1 (by omega) (.slice A5 n5 c5)), ((((x1b.fr w.heap.size 0 (by omega) (.bool b4)).fr w.heap.size 1 (by omega) (.slice A4 n4 c4)).set_at 0 (.bool b5) #[.bool b5, .slice A' n' c'] (by simp)).set_at 1 (.slice A5 n5 c5) #[.bool b5, .slice A5 n5 c5] (by simp)), ((((x1c.fr w.heap.size 0 (by omega) (.bool b4)).fr w.heap.size 1 (by omega) (.slice A4 n4 c4)).fr (w.heap.size + 1) 0 (by omega) (.bool b5)).fr (w.heap.size + 1) 1 (by omega) (.slice A5 n5 c5)), h4.keep kp, h5.keep kp, ((((bw5.sc w.heap.size 0 (by omega) (.bool b4)).sc w.heap.size 1 (by omega) (.slice A4 n4 c4)).sc (w.heap.size + 1) 0 (by omega) (.bool b5)).sc (w.heap.size + 1) 1 (by omega) (.slice A5 n5 c5)), by simp [World.setCell]; omega⟩
 case rest =>
  clear h h'
  obtain ⟨rfl, b8, A8, n8, c8, b9, A9, n9, c9, y0, y1, y2, h8, h9, bwc, lwc⟩ := hcut
  clear x1a x1b x1c
  have cy0_0 : wc.cell? ⟨w.heap.size, 0, none⟩ = some (.bool b8) := y0.cell 0
  have cy0_1 : wc.cell? ⟨w.heap.size, 1, none⟩ = some (.slice A8 n8 c8) := y0.cell 1
  obtain ⟨ly0_0, ly0_1, ly0_2, ly0_3⟩ := lts0 y0.lt
  have cy1_0 : wc.cell? ⟨w.heap.size + 1, 0, none⟩ = some (.bool b9) := y1.cell 0
  have cy1_1 : wc.cell? ⟨w.heap.size + 1, 1, none⟩ = some (.slice A9 n9 c9) := y1.cell 1
  obtain ⟨ly1_0, ly1_1, ly1_2, ly1_3⟩ := lts1 y1.lt
  go_wp2_with fail
  (with_reducible refine (r01_gcd _ b8 A8 n8 c8 (-z) (k) ?_ b9 A9 n9 c9 (-z') (k') ?_ ?_).mono ?_); (exact h8.iz); (exact h9.iz); (first | omega | decide | assumption); rintro e w13 ⟨b13, A13, n13, c13, rfl, h13, q13⟩
  clear cy0_0 cy0_1 ly0_0 ly0_1 ly0_2 ly0_3 cy1_0 cy1_1 ly1_0 ly1_1 ly1_2 ly1_3
  replace h8 := h8.belw q13
  replace h9 := h9.belw q13
  replace y0 := y0.b q13
  replace y1 := y1.b q13
  replace y2 := y2.b q13
  have bw13 := bwc.trans (q13.mono bwc.size)
  have lw13 := q13.size
  clear q13
  obtain ⟨cy0_0, cy0_1⟩ := y0.c2
  obtain ⟨ly0_0, ly0_1, ly0_2, ly0_3⟩ := lts0 y0.lt
  go_wp2_with fail
  (with_reducible refine (r01_div _ b8 A8 n8 c8 (-z) (k) ?_ b13 A13 n13 c13 ((Nat.gcd ((-z)).natAbs ((-z')).natAbs : Nat)) ((k) + (k')) ?_  ?_ ?_ ?_).mono ?_); (exact (h8.belw ((Below.refl _ _).alloc (Nat.le_refl _) _)).iz); (exact (h13.belw ((Below.refl _ _).alloc (Nat.le_refl _) _)).iz); (omega); (exact HG.out); (exact HM1.out); rintro e w14 ⟨b14, A14, n14, c14, b'14, A'14, n'14, c'14, rfl, h14, h'14, hb14⟩
  clear cy0_0 cy0_1 ly0_0 ly0_1 ly0_2 ly0_3
  have q14 := ((Below.refl _ _).alloc (Nat.le_refl _) _).trans (hb14.mono (by simp))
  replace h8 := h8.belw q14
  replace h9 := h9.belw q14
  replace h13 := h13.belw q14
  replace y0 := y0.b q14
  replace y1 := y1.b q14
  replace y2 := y2.b q14
  have x14a : Blk w14 w13.heap.size 52 #[.bool b13, .slice A13 n13 c13] := (blkAt _ _ _ (by simp)).below hb14 (by simp)
  have bw14 := bw13.trans (q14.mono bw13.size)
  have lw14 : w13.heap.size + 1 ≤ w14.heap.size := by have := hb14.size; simp at this; omega
  clear q14 bw13
  obtain ⟨cy1_0, cy1_1⟩ := y1.c2
  obtain ⟨ly1_0, ly1_1, ly1_2, ly1_3⟩ := lts1 y1.lt
  obtain ⟨cx14aa, cx14ab⟩ := x14a.c2
  obtain ⟨lx14aa, lx14ab, lx14ac, lx14ad⟩ := lts0 x14a.lt
  go_wp2_with fail
  (with_reducible refine (r01_div _ b9 A9 n9 c9 (-z') (k') ?_ b13 A13 n13 c13 ((Nat.gcd ((-z)).natAbs ((-z')).natAbs : Nat)) ((k) + (k')) ?_  ?_ ?_ ?_).mono ?_); (exact (h9.belw (((Below.refl _ _).alloc (Nat.le_refl _) _).alloc (by simp) _)).iz); (exact (h13.belw (((Below.refl _ _).alloc (Nat.le_refl _) _).alloc (by simp) _)).iz); (omega); (exact HG.out); (exact HM2.out); rintro e w15 ⟨b15, A15, n15, c15, b'15, A'15, n'15, c'15, rfl, h15, h'15, hb15⟩
  clear cy1_0 cy1_1 ly1_0 ly1_1 ly1_2 ly1_3 cx14aa cx14ab lx14aa lx14ab lx14ac lx14ad
  have q15 := (((Below.refl _ _).alloc (Nat.le_refl _) _).alloc (by simp) _).trans (hb15.mono (by simp <;> omega))
  replace h8 := h8.belw q15
  replace h9 := h9.belw q15
  replace h13 := h13.belw q15
  replace h14 := h14.belw q15
  replace h'14 := h'14.belw q15
  replace y0 := y0.b q15
  replace y1 := y1.b q15
  replace y2 := y2.b q15
  replace x14a := x14a.b q15
  have x15a : Blk w15 w14.heap.size 52 #[.bool b14, .slice A14 n14 c14] := ((blkAt _ _ _ (by simp)).alloc _).below hb15 (by simp <;> omega)
  have x15b := (blkAt _ _ _ (g := w14.heap.size + 1) (by simp)).below hb15 (by simp)
  have bw15 := bw14.trans (q15.mono bw14.size)
  have lw15 : w14.heap.size + 2 ≤ w15.heap.size := by have := hb15.size; simp at this; omega
  clear q15 bw14
  obtain ⟨cy2_0, cy2_1, cy2_2⟩ := y2.c3
  obtain ⟨fy2_0, fy2_1, fy2_2⟩ := y2.f3
  obtain ⟨ly2_0, ly2_1, ly2_2, ly2_3⟩ := lts2 y2.lt
  obtain ⟨cx15aa, cx15ab⟩ := x15a.c2
  obtain ⟨lx15aa, lx15ab, lx15ac, lx15ad⟩ := lts0 x15a.lt
  go_wp2_with fail
  refine bodyPost_ret (v := .agg #[.bool b14, .slice A14 n14 c14, .slice A15 n15 c15]) (by simp [results, Tryz.results49, go_sem, *] <;> first | rfl | exact ⟨rfl, rfl⟩) rfl ?_
  obtain ⟨e1, e2, e3⟩ := form_any HN.out HP.out HQ.out
  exact ⟨_, _, _, _, _, _, _, rfl, QV.mk_ (by rw [e1]; exact h14.2.1.keep ((((((Kp.refl w15).sb (w.heap.size + 1 + 1) 0 y2.box (by decide) (.bool b14)).sb (w.heap.size + 1 + 1) 1 (y2.box.set ⟨w.heap.size + 1 + 1, 0, none⟩ (.bool b14)) (by decide) (.slice A14 n14 c14)).sb (w.heap.size + 1 + 1) 2 ((y2.box.set ⟨w.heap.size + 1 + 1, 0, none⟩ (.bool b14)).set ⟨w.heap.size + 1 + 1, 1, none⟩ (.slice A14 n14 c14)) (by decide) (.slice A15 n15 c15)).alloc (.cells #[.bool b15, .slice A15 n15 c15] 52)).alloc (.cells #[.bool b'15, .slice A'15 n'15 c'15] 52))) (by rw [e2]; exact h15.2.1.keep ((((((Kp.refl w15).sb (w.heap.size + 1 + 1) 0 y2.box (by decide) (.bool b14)).sb (w.heap.size + 1 + 1) 1 (y2.box.set ⟨w.heap.size + 1 + 1, 0, none⟩ (.bool b14)) (by decide) (.slice A14 n14 c14)).sb (w.heap.size + 1 + 1) 2 ((y2.box.set ⟨w.heap.size + 1 + 1, 0, none⟩ (.bool b14)).set ⟨w.heap.size + 1 + 1, 1, none⟩ (.slice A14 n14 c14)) (by decide) (.slice A15 n15 c15)).alloc (.cells #[.bool b15, .slice A15 n15 c15] 52)).alloc (.cells #[.bool b'15, .slice A'15 n'15 c'15] 52))) (by rw [e3]; exact h14.1.symm) HS.out, (((((bw15.sc (w.heap.size + 1 + 1) 0 (by omega) (.bool b14)).sc (w.heap.size + 1 + 1) 1 (by omega) (.slice A14 n14 c14)).sc (w.heap.size + 1 + 1) 2 (by omega) (.slice A15 n15 c15)).alloc (by first | omega | (simp <;> omega)) (.cells #[.bool b15, .slice A15 n15 c15] 52)).alloc (by first | omega | (simp <;> omega)) (.cells #[.bool b'15, .slice A'15 n'15 c'15] 52))⟩
theorem g_form (w : World)  (b : Bool) (A : Option Addr) (n c : Nat) (z : Int) (k : Nat) (h : IZ w b A n c z k) (b' : Bool) (A' : Option Addr) (n' c' : Nat) (z' : Int) (k' : Nat) (h' : IZ w b' A' n' c' z' k') (q : Rat) (K : Nat) (hd : z' ≠ 0) (hq : Rat.divInt z z' = q) (hs : Sz q K) (hk : k + k' ≤ 300000000) :
    Calls Tryz.prog 49 #[.agg #[.bool b, .slice A n c], .agg #[.bool b', .slice A' n' c']] w (RetF w q K) := by
  by_cases s : z = 0
  · rw [← hq, s, Rat.zero_divInt]; exact g_form_0 w b A n c z k h b' A' n' c' z' k' h' K s hk
  · rcases sign3 z' with t | t | t
    · exact absurd t hd
    · exact g_form_p w b A n c z k h b' A' n' c' z' k' h' q K s t hq hs hk
    · exact g_form_n w b A n c z k h b' A' n' c' z' k' h' q K s t hq hs hk
end Go.Proofs.YtjanfdkbficmbaaGreatDoor

/- Walks: the reference: fractions, sums and differences. -/
namespace Go.Proofs.YtjanfdkbficmbaaGreatDoor
open Go Go.RowKit Bn
attribute [local go_sem ↓] Go.wp_at_zero Go.wp_at_succ
theorem g_from (w : World) (b : Bool) (A : Option Addr) (n c : Nat) (z : Int) (k : Nat) (h : IZ w b A n c z k) (b' : Bool) (A' : Option Addr) (n' c' : Nat) (z' : Int) (k' : Nat) (h' : IZ w b' A' n' c' z' k') (q : Rat) (K : Nat) (hd : z' ≠ 0) (hq : Rat.divInt z z' = q) (hs : Sz q K) (hk : k + k' ≤ 300000000) :
  Calls Tryz.prog 21 #[.agg #[.bool b, .slice A n c], .agg #[.bool b', .slice A' n' c']] w (RetFe w (.int .i64 0) q K) := by
 obtain ⟨s, hs1⟩ : ∃ s, z'.sign = s := ⟨_, rfl⟩
 have e0 : ((s : Int) == 0) = false := by simp; rintro rfl; exact hd (Int.sign_eq_zero_iff_zero.1 hs1)
 have HS1 := Lib.hid hs1
 have HD := Lib.hid hd
 have HQ := Lib.hid hq
 have HS := Lib.hid hs
 clear hs1 hd hq hs
 go_enter Tryz.func21, Tryz.ntmps21
 go_wp2_with fail
 (with_reducible refine (r01_sign_e _ b' A' n' c' (z') (k') ?_ s ?_ ?_).mono ?_); (exact (h'.belw ((((Below.refl _ _).alloc (Nat.le_refl _) _).alloc (by simp) _).alloc (by simp <;> omega) _))); (exact HS1.out); (omega); rintro e w1 ⟨rfl, hb1⟩
 have q1 := ((((Below.refl _ _).alloc (Nat.le_refl _) _).alloc (by simp) _).alloc (by simp <;> omega) _).trans (hb1.mono (by simp <;> omega))
 replace h := h.belw q1
 replace h' := h'.belw q1
 have x1a : Blk w1 w.heap.size 52 #[.bool b, .slice A n c] := (((blkAt _ _ _ (by simp)).alloc _).alloc _).below hb1 (by simp <;> omega)
 have x1b := ((blkAt _ _ _ (g := w.heap.size + 1) (by simp)).alloc _).below hb1 (by simp <;> omega)
 have x1c := (blkAt _ _ _ (g := w.heap.size + 1 + 1) (by simp)).below hb1 (by simp)
 have bw1 := (brefl w).trans (q1.mono (brefl w).size)
 have lw1 : w.heap.size + 3 ≤ w1.heap.size := by have := hb1.size; simp at this; omega
 clear q1
 obtain ⟨cx1aa, cx1ab⟩ := x1a.c2
 obtain ⟨lx1aa, lx1ab, lx1ac, lx1ad⟩ := lts0 x1a.lt
 obtain ⟨cx1ba, cx1bb⟩ := x1b.c2
 obtain ⟨lx1ba, lx1bb, lx1bc, lx1bd⟩ := lts1 x1b.lt
 go_wp2_with fail
 (with_reducible refine (g_form _ b A n c (z) (k) ?_ b' A' n' c' (z') (k') ?_ q K ?_ ?_ ?_ ?_).mono ?_); (exact h); (exact h'); (exact HD.out); (exact HQ.out); (exact HS.out); (omega); rintro e w2 ⟨b2, A2, n2, c2, A'2, n'2, c'2, rfl, h2, q2⟩
 clear cx1aa cx1ab lx1aa lx1ab lx1ac lx1ad cx1ba cx1bb lx1ba lx1bb lx1bc lx1bd
 replace h := h.belw q2
 replace h' := h'.belw q2
 replace x1a := x1a.b q2
 replace x1b := x1b.b q2
 replace x1c := x1c.b q2
 have bw2 := bw1.trans (q2.mono bw1.size)
 have lw2 := q2.size
 clear q2 bw1
 obtain ⟨cx1ca, cx1cb, cx1cc⟩ := x1c.c3
 obtain ⟨fx1ca, fx1cb, fx1cc⟩ := x1c.f3
 obtain ⟨lx1ca, lx1cb, lx1cc, lx1cd⟩ := lts2 x1c.lt
 go_wp2_with fail
 refine bodyPost_ret (v := .tuple #[.agg #[.bool b2, .slice A2 n2 c2, .slice A'2 n'2 c'2], .int .i64 0]) (by simp [results, Tryz.results21, go_sem, *] <;> first | rfl | exact ⟨rfl, rfl⟩) rfl ?_
 exact ⟨b2, A2, n2, c2, A'2, n'2, c'2, rfl, h2.keep ((((Kp.refl w2).sb (w.heap.size + 1 + 1) 0 x1c.box (by decide) (.bool b2)).sb (w.heap.size + 1 + 1) 1 (x1c.box.set ⟨w.heap.size + 1 + 1, 0, none⟩ (.bool b2)) (by decide) (.slice A2 n2 c2)).sb (w.heap.size + 1 + 1) 2 ((x1c.box.set ⟨w.heap.size + 1 + 1, 0, none⟩ (.bool b2)).set ⟨w.heap.size + 1 + 1, 1, none⟩ (.slice A2 n2 c2)) (by decide) (.slice A'2 n'2 c'2)), (((bw2.sc (w.heap.size + 1 + 1) 0 (by omega) (.bool b2)).sc (w.heap.size + 1 + 1) 1 (by omega) (.slice A2 n2 c2)).sc (w.heap.size + 1 + 1) 2 (by omega) (.slice A'2 n'2 c'2))⟩
theorem g_make (w : World) (i j : Int) (hi : -4294967296 < i) (hi2 : i < 4294967296) (hj : -4294967296 < j) (hj2 : j < 4294967296) (q : Rat) (K : Nat) (hd : j ≠ 0) (hq : Rat.divInt i j = q) (hs : Sz q K) :
  Calls Tryz.prog 9 #[.int .i64 i, .int .i64 j] w (RetFe w (.int .i64 0) q K) := by
 have HD := Lib.hid hd
 have HQ := Lib.hid hq
 have HS := Lib.hid hs
 clear hd hq hs
 go_enter Tryz.func9, Tryz.ntmps9
 go_wp2_with fail
 (with_reducible refine (r01_of1 _ (i) ?_ ?_).mono ?_); (first | omega | decide | assumption); (first | omega | decide | assumption); rintro e w1 ⟨b1, A1, n1, c1, rfl, h1, hb1⟩
 have q1 := ((Below.refl _ _).alloc (Nat.le_refl _) _).trans (hb1.mono (by simp))
 have x1a : Blk w1 w.heap.size 32 #[.bool false, .slice none 0 0, .slice none 0 0] := (blkAt _ _ _ (by simp)).below hb1 (by simp)
 have bw1 := (brefl w).trans (q1.mono (brefl w).size)
 have lw1 : w.heap.size + 1 ≤ w1.heap.size := by have := hb1.size; simp at this; omega
 clear q1
 go_wp2_with fail
 (with_reducible refine (r01_of1 _ (j) ?_ ?_).mono ?_); (first | omega | decide | assumption); (first | omega | decide | assumption); rintro e w2 ⟨b2, A2, n2, c2, rfl, h2, q2⟩
 replace h1 := h1.belw q2
 replace x1a := x1a.b q2
 have bw2 := bw1.trans (q2.mono bw1.size)
 have lw2 := q2.size
 clear q2 bw1
 go_wp2_with fail
 (with_reducible refine (g_from _ b1 A1 n1 c1 (i) (1) ?_ b2 A2 n2 c2 (j) (1) ?_ q K ?_ ?_ ?_ ?_).mono ?_); (exact h1.iz); (exact h2.iz); (exact HD.out); (exact HQ.out); (exact HS.out); (decide); rintro e w3 ⟨b3, A3, n3, c3, A'3, n'3, c'3, rfl, h3, q3⟩
 replace h1 := h1.belw q3
 replace h2 := h2.belw q3
 replace x1a := x1a.b q3
 have bw3 := bw2.trans (q3.mono bw2.size)
 have lw3 := q3.size
 clear q3 bw2
 obtain ⟨cx1aa, cx1ab, cx1ac⟩ := x1a.c3
 obtain ⟨fx1aa, fx1ab, fx1ac⟩ := x1a.f3
 obtain ⟨lx1aa, lx1ab, lx1ac, lx1ad⟩ := lts0 x1a.lt
 go_wp2_with fail
 refine bodyPost_ret (v := .tuple #[.agg #[.bool b3, .slice A3 n3 c3, .slice A'3 n'3 c'3], .int .i64 0]) (by simp [results, Tryz.results9, go_sem, *] <;> first | rfl | exact ⟨rfl, rfl⟩) rfl ?_
 exact ⟨b3, A3, n3, c3, A'3, n'3, c'3, rfl, h3.keep ((((Kp.refl w3).sb w.heap.size 0 x1a.box (by decide) (.bool b3)).sb w.heap.size 1 (x1a.box.set ⟨w.heap.size, 0, none⟩ (.bool b3)) (by decide) (.slice A3 n3 c3)).sb w.heap.size 2 ((x1a.box.set ⟨w.heap.size, 0, none⟩ (.bool b3)).set ⟨w.heap.size, 1, none⟩ (.slice A3 n3 c3)) (by decide) (.slice A'3 n'3 c'3)), (((bw3.sc w.heap.size 0 (by omega) (.bool b3)).sc w.heap.size 1 (by omega) (.slice A3 n3 c3)).sc w.heap.size 2 (by omega) (.slice A'3 n'3 c'3))⟩
end Go.Proofs.YtjanfdkbficmbaaGreatDoor

/- Texts of fractions: plain. -/
namespace Bn
open Go.Lib
theorem index_at {c : UInt8} : ∀ {a b : List UInt8}, c ∉ a → index (a ++ c :: b) [c] = (a.length : Int) := by
  intro a
  induction a with
  | nil => intro b _; rw [List.nil_append, index, if_pos (by simp [List.isPrefixOf])]; rfl
  | cons x r ih =>
    intro b h
    simp at h
    have hp : List.isPrefixOf [c] (x :: (r ++ c :: b)) = false := by simp [List.isPrefixOf]; exact h.1
    rw [List.cons_append, index, hp, ih (b := b) h.2]
    have : ((r.length : Int) == -1) = false := by rw [beq_eq_false_iff_ne]; omega
    simp [this]
theorem index_no {c : UInt8} : ∀ {a : List UInt8}, c ∉ a → index a [c] = -1 := by
  intro a
  induction a with
  | nil => intro _; rfl
  | cons x r ih =>
    intro h
    simp at h
    have hp : List.isPrefixOf [c] (x :: r) = false := by simp [List.isPrefixOf]; exact h.1
    rw [index, hp, ih h.2]
    rfl
theorem cut_at {c : UInt8} {a b : List UInt8} (h : c ∉ a) : cut (a ++ c :: b) [c] = (a, b, true) := by
  unfold cut
  rw [index_at h, if_pos (by omega)]
  simp
theorem cut_no {c : UInt8} {a : List UInt8} (h : c ∉ a) : cut a [c] = (a, [], false) := by
  unfold cut
  rw [index_no h, if_neg (by omega)]
end Bn

/- Walks: the opening of the integer laws. -/
namespace Go.Proofs.YtjanfdkbficmbaaGreatDoor
open Go Go.RowKit Bn
attribute [local go_sem ↓] Go.wp_at_zero Go.wp_at_succ
theorem IZ.short {w : World} {b : Bool} {A : Option Addr} {n c k : Nat} {z : Int} (h : IZ w b A n c z k) (hs : n ≤ 30) : IZ w b A n c z 30 := by
  obtain ⟨l, h1, h2, _⟩ := h
  exact ⟨l, h1, h2, hs⟩
end Go.Proofs.YtjanfdkbficmbaaGreatDoor

/- Walks: fractions: From by 0, Make, Floor, Bits, Abs, Min, Max. -/
namespace Go.Proofs.YtjanfdkbficmbaaGreatDoor
open Go Go.RowKit Bn
attribute [local go_sem ↓] Go.wp_at_zero Go.wp_at_succ
theorem f_from_0 (w : World) (b : Bool) (A : Option Addr) (n c : Nat) (z : Int) (k : Nat) (h : IZ w b A n c z k) (b' : Bool) (A' : Option Addr) (n' c' : Nat) (z' : Int) (k' : Nat) (h' : IZ w b' A' n' c' z' k') (hd : z' = 0) (hk : k + k' ≤ 300000000) :
  Calls Tryz.prog 20 #[.agg #[.bool b, .slice A n c], .agg #[.bool b', .slice A' n' c']] w (RetFe w (.iface 42 (.int .i64 8)) 0 1) := by
 have HS := Lib.hid (show z'.sign = 0 by rw [hd]; rfl)
 clear hd
 go_enter Tryz.func20, Tryz.ntmps20
 go_wp2_with fail
 (with_reducible refine (i_sign_e _ b' A' n' c' (z') (k') ?_ 0 ?_ ?_).mono ?_); (exact (h'.belw ((((Below.refl _ _).alloc (Nat.le_refl _) _).alloc (by simp) _).alloc (by simp <;> omega) _))); (exact HS.out); (omega); rintro e w1 ⟨rfl, hb1⟩
 have q1 := ((((Below.refl _ _).alloc (Nat.le_refl _) _).alloc (by simp) _).alloc (by simp <;> omega) _).trans (hb1.mono (by simp <;> omega))
 replace h := h.belw q1
 replace h' := h'.belw q1
 have x1a : Blk w1 w.heap.size 52 #[.bool b, .slice A n c] := (((blkAt _ _ _ (by simp)).alloc _).alloc _).below hb1 (by simp <;> omega)
 have x1b := ((blkAt _ _ _ (g := w.heap.size + 1) (by simp)).alloc _).below hb1 (by simp <;> omega)
 have x1c := (blkAt _ _ _ (g := w.heap.size + 1 + 1) (by simp)).below hb1 (by simp)
 have bw1 := (brefl w).trans (q1.mono (brefl w).size)
 have lw1 : w.heap.size + 3 ≤ w1.heap.size := by have := hb1.size; simp at this; omega
 clear q1
 obtain ⟨cx1ca, cx1cb, cx1cc⟩ := x1c.c3
 obtain ⟨fx1ca, fx1cb, fx1cc⟩ := x1c.f3
 obtain ⟨lx1ca, lx1cb, lx1cc, lx1cd⟩ := lts2 x1c.lt
 go_wp2_with fail
 refine bodyPost_ret (v := .tuple #[.agg #[.bool false, .slice none 0 0, .slice none 0 0], .iface 42 (.int .i64 8)]) (by simp [results, Tryz.results20, go_sem, *] <;> first | rfl | exact ⟨rfl, rfl⟩) rfl ?_
 exact ⟨_, _, _, _, _, _, _, rfl, QV.zero _ _, (((bw1.sc (w.heap.size + 1 + 1) 0 (by omega) (.bool false)).sc (w.heap.size + 1 + 1) 1 (by omega) (.slice none 0 0)).sc (w.heap.size + 1 + 1) 2 (by omega) (.slice none 0 0))⟩
end Go.Proofs.YtjanfdkbficmbaaGreatDoor

/- Texts of fractions: what reading one gives. Plain. -/
namespace Bn
open Go.Lib
def decOk (F B : List UInt8) : Bool := okZ (tailS F) && decide (0 ≤ valZ (tailS F)) && decide (B ≠ []) && B.all isDg
def decN (F B : List UInt8) : Int := valZ (tailS F) * 10 ^ B.length + decVal B
def decQ (F B : List UInt8) : Rat := Rat.divInt (if headM F then -(decN F B) else decN F B) (10 ^ B.length)
def quoOk (F B : List UInt8) : Bool := okZ F && okZ B && decide (0 < valZ B) && decide (valZ B ≠ 1) && decide (Nat.gcd (valZ F).natAbs (valZ B).natAbs = 1)
inductive FracOut (s : List UInt8) (x : Int) (q : Rat) : Prop
  | big (h : 65536 < s.length) (hx : x = 4) (hq : q = 0)
  | dot (F B : List UInt8) (hl : s.length ≤ 65536) (hs : s = F ++ 46 :: B) (hF : 46 ∉ F) (h64 : s.length ≤ 64) (h : decOk F B = true) (hx : x = 0) (hq : q = decQ F B)
  | dotNo (F B : List UInt8) (hl : s.length ≤ 65536) (hs : s = F ++ 46 :: B) (hF : 46 ∉ F) (h : 64 < s.length ∨ decOk F B = false) (hx : x = 2) (hq : q = 0)
  | quo (F B : List UInt8) (hl : s.length ≤ 65536) (hd : 46 ∉ s) (hs : s = F ++ 47 :: B) (hF : 47 ∉ F) (h : quoOk F B = true) (hx : x = 0) (hq : q = Rat.divInt (valZ F) (valZ B))
  | quoNo (F B : List UInt8) (hl : s.length ≤ 65536) (hd : 46 ∉ s) (hs : s = F ++ 47 :: B) (hF : 47 ∉ F) (h : quoOk F B = false) (hx : x = 2) (hq : q = 0)
  | whole (hl : s.length ≤ 65536) (hd : 46 ∉ s) (hs : 47 ∉ s) (h : okZ s = true) (hx : x = 0) (hq : q = ((valZ s : Int) : Rat))
  | wholeNo (hl : s.length ≤ 65536) (hd : 46 ∉ s) (hs : 47 ∉ s) (h : okZ s = false) (hx : x = 2) (hq : q = 0)
end Bn

/- Walks: linkworkref01.Parse. -/
namespace Go.Proofs.YtjanfdkbficmbaaGreatDoor
open Go Go.RowKit Bn

def RetP (w : World) (T : List UInt8) (m : Bool) (k : Nat) (e : Ending) (w' : World) : Prop :=
  if T.all isDg = true then RetIe w (.int .i64 0) (if m then -(decVal T : Int) else decVal T) k e w' else RetIe w (.int .i64 2) 0 0 e w'
theorem RetP.bad {w w' : World} {T : List UInt8} {m : Bool} {k : Nat} {e : Ending} (h : ¬ T.all isDg = true) (hr : RetIe w (.int .i64 2) 0 0 e w') : RetP w T m k e w' := by
  unfold RetP; rw [if_neg h]; exact hr
theorem RetP.good {w w' : World} {T : List UInt8} {m : Bool} {k : Nat} {e : Ending} (h : T.all isDg = true) (hr : RetIe w (.int .i64 0) (if m then -(decVal T : Int) else decVal T) k e w') : RetP w T m k e w' := by
  unfold RetP; rw [if_pos h]; exact hr
end Go.Proofs.YtjanfdkbficmbaaGreatDoor

/- Walks: IntegerTexts. -/
namespace Go.Proofs.YtjanfdkbficmbaaGreatDoor
open Go Go.RowKit Bn
attribute [local go_sem ↓] Go.wp_at_zero Go.wp_at_succ
def errV (x : Int) : Value := if x = 0 then .nilIface else .iface 42 (.int .i64 x)
theorem errV_0 : errV 0 = .nilIface := if_pos rfl
theorem RetIe.mono {w w' : World} {v : Value} {z : Int} {k j : Nat} {e : Ending} (h : RetIe w v z k e w') (hk : k ≤ j) : RetIe w v z j e w' := by
  obtain ⟨b, A, n, c, h1, h2, h3⟩ := h
  exact ⟨b, A, n, c, h1, h2.mono hk, h3⟩
end Go.Proofs.YtjanfdkbficmbaaGreatDoor

/- Walks: tokens: numbers. -/
namespace Go.Proofs.YtjanfdkbficmbaaGreatDoor
open Go Go.RowKit Bn
attribute [local go_sem ↓] Go.wp_at_zero Go.wp_at_succ
theorem minN_at (s : List UInt8) (i : Nat) : minN (s.drop i) = if atB s i = 45 then 1 else 0 := by
  rcases Nat.lt_or_ge i s.length with h | h
  · rw [drop_at h]
    unfold minN
    split
    · rename_i e; injection e with e1 e2; rw [if_pos e1]
    · rename_i e; rw [if_neg (fun e1 => e _ (by rw [e1]))]
  · rw [List.drop_eq_nil_of_le h, atB_ge h]; rfl
theorem tailN_at (s : List UInt8) (i : Nat) : tailN (s.drop i) = if (atB s i == 46 || atB s i == 47) && decide (0 < digN (s.drop (i + 1))) then 1 + digN (s.drop (i + 1)) else 0 := by
  rcases Nat.lt_or_ge i s.length with h | h
  · rw [drop_at h]; rfl
  · rw [List.drop_eq_nil_of_le h, atB_ge h]; rfl
theorem num_cases {s : List UInt8} {i v : Nat} (hv : numN (s.drop i) = v) : ∃ m k, ((m = 1 ∧ atB s i = 45) ∨ (m = 0 ∧ atB s i ≠ 45)) ∧ digN (s.drop (i + m)) = k ∧
    ((k = 0 ∧ v = 0) ∨ (0 < k ∧ ∃ d, atB s (i + m + k) = d ∧ ((d ≠ 46 ∧ d ≠ 47 ∧ v = m + k) ∨ ((d = 46 ∨ d = 47) ∧ ∃ t, digN (s.drop (i + m + k + 1)) = t ∧ ((t = 0 ∧ v = m + k) ∨ (0 < t ∧ v = m + k + (1 + t))))))) := by
  unfold numN at hv
  rw [minN_at, List.drop_drop] at hv
  obtain ⟨m, hm⟩ : ∃ m, (if atB s i = 45 then 1 else 0) = m := ⟨_, rfl⟩
  rw [hm] at hv
  have hm2 : (m = 1 ∧ atB s i = 45) ∨ (m = 0 ∧ atB s i ≠ 45) := by
    by_cases h : atB s i = 45
    · rw [if_pos h] at hm; exact .inl ⟨hm.symm, h⟩
    · rw [if_neg h] at hm; exact .inr ⟨hm.symm, h⟩
  obtain ⟨k, hk⟩ : ∃ k, digN (s.drop (i + m)) = k := ⟨_, rfl⟩
  rw [hk, List.drop_drop, tailN_at, ← Nat.add_assoc] at hv
  refine ⟨m, k, hm2, hk, ?_⟩
  by_cases h0 : k = 0
  · rw [if_pos h0] at hv; exact .inl ⟨h0, hv.symm⟩
  · rw [if_neg h0] at hv
    refine .inr ⟨by omega, _, rfl, ?_⟩
    by_cases h1 : atB s (i + m + k) = 46 ∨ atB s (i + m + k) = 47
    · have e : (atB s (i + m + k) == 46 || atB s (i + m + k) == 47) = true := by rcases h1 with h | h <;> rw [h] <;> rfl
      rw [e, Bool.true_and] at hv
      refine .inr ⟨h1, _, rfl, ?_⟩
      by_cases h2 : 0 < digN (s.drop (i + m + k + 1))
      · rw [if_pos (decide_eq_true h2)] at hv; exact .inr ⟨h2, hv.symm⟩
      · rw [if_neg (by rw [decide_eq_false h2]; decide)] at hv; exact .inl ⟨by omega, by omega⟩
    · have a1 : atB s (i + m + k) ≠ 46 := fun h => h1 (.inl h)
      have a2 : atB s (i + m + k) ≠ 47 := fun h => h1 (.inr h)
      rw [beq_eq_false_iff_ne.2 a1, beq_eq_false_iff_ne.2 a2, Bool.or_self, Bool.false_and, if_neg (by decide)] at hv
      exact .inl ⟨a1, a2, by omega⟩
theorem digN_drop {s : List UInt8} {i k : Nat} (h : digN (s.drop i) = k) (hk : 0 < k) : i + k ≤ s.length := by
  have := digN_le (s.drop i)
  rw [h, List.length_drop] at this
  omega
theorem headM_at (s : List UInt8) : headM s = (atB s 0 == 45) := by
  cases s with
  | nil => rfl
  | cons c t =>
    by_cases h : c = 45
    · subst h; rfl
    · have e : (c == 45) = false := beq_eq_false_iff_ne.2 h
      show headM (c :: t) = (c == 45)
      rw [e]; unfold headM
      split
      · rename_i h1; injection h1 with h2; exact absurd h2 h
      · rfl
theorem atB_in {s : List UInt8} {i : Nat} {d : UInt8} (h : atB s i = d) (hd : d ≠ 0) : i < s.length := by
  rcases Nat.lt_or_ge i s.length with x | x
  · exact x
  · rw [atB_ge x] at h; exact absurd h.symm hd
theorem t_number (w : World) (s : List UInt8) (hs : s.length < 4611686018427387904) (v : Nat) (hv : numN s = v) : Calls Tryz.prog 13 #[strV s] w (RetV w (.int .i64 (v : Nat))) := by
  have hszs := size_v s
  obtain ⟨m, k, hm, hk, hc⟩ := num_cases (s := s) (i := 0) hv
  rw [Nat.zero_add] at hk
  simp only [Nat.zero_add] at hc
  clear hv
  rcases hm with ⟨rfl, ham⟩ | ⟨rfl, ham⟩
  · have h0d : 0 < s.length := atB_in ham (by decide)
    have hM : headM s = true := by rw [headM_at]; simp [ham]
    clear ham
    rcases hc with ⟨hk0, hv0⟩ | ⟨hkp, d, hd, hc⟩
    · subst hv0
      subst hk0
      go_enter Tryz.func13, Tryz.ntmps13
      go_wp2_with fail
      (with_reducible refine (prefix_v _ (s) true hM).mono ?_); rintro e w1 ⟨rfl, q1⟩
      have bw1 := (brefl w).trans (q1.mono (brefl w).size)
      have lw1 := q1.size
      clear q1
      go_wp2_with fail
      (with_reducible refine (t_digits_x _ (s) (1) (1) (by omega) (by omega) hs (0) (by have h9 := hk; omega)).mono ?_); rintro e w2 ⟨rfl, q2⟩
      have bw2 := bw1.trans (q2.mono bw1.size)
      have lw2 := q2.size
      clear q2 bw1
      go_wp2_with fail
      go_ret
      exact retI (by omega) bw2
    · have hle : 1 + k ≤ s.length := by have := digN_drop hk hkp; omega
      have hk9 : ((k : Int) == 0) = false := by simp; omega
      have hk8 : ((k : Int) = 0) = False := by simp; omega
      rcases hc with ⟨hd1, hd2, hv9⟩ | ⟨hdd, t, ht, hc⟩
      · have e46 : (((d.toNat : Nat) : Int) == 46) = false := (byte_eq d 46).trans (by simp [hd1])
        have e47 : (((d.toNat : Nat) : Int) == 47) = false := (byte_eq d 47).trans (by simp [hd2])
        clear hd1 hd2
        replace hv9 := hv9.symm
        subst hv9
        have hwe : IntKind.i64.wrap (1 + (k : Int)) = 1 + (k : Int) := IntWalk.i64_in _ ⟨by omega, by omega⟩
        rcases Nat.lt_or_ge (1 + k) s.length with hl | hl
        · have hget : ∀ h, (⟨s.toArray⟩ : ByteArray)[1 + k]'h = d := fun h => by rw [← hd]; exact (atB_lt hl).symm
          have et : (1 + (k : Int)).toNat = 1 + k := by omega
          have hei : 1 + (k : Int) < (s.length : Int) := by omega
          have he0 : (0 : Int) ≤ 1 + (k : Int) := by omega
          go_enter Tryz.func13, Tryz.ntmps13
          go_wp2_with fail
          (with_reducible refine (prefix_v _ (s) true hM).mono ?_); rintro e w1 ⟨rfl, q1⟩
          have bw1 := (brefl w).trans (q1.mono (brefl w).size)
          have lw1 := q1.size
          clear q1
          go_wp2_with fail
          (with_reducible refine (t_digits_x _ (s) (1) (1) (by omega) (by omega) hs ((k : Int)) (by have h9 := hk; omega)).mono ?_); rintro e w2 ⟨rfl, q2⟩
          have bw2 := bw1.trans (q2.mono bw1.size)
          have lw2 := q2.size
          clear q2 bw1
          go_wp2_with fail
          go_ret
          exact retI (by omega) bw2
        · have hei : (1 + (k : Int) < (s.length : Int)) = False := by simp; omega
          go_enter Tryz.func13, Tryz.ntmps13
          go_wp2_with fail
          (with_reducible refine (prefix_v _ (s) true hM).mono ?_); rintro e w1 ⟨rfl, q1⟩
          have bw1 := (brefl w).trans (q1.mono (brefl w).size)
          have lw1 := q1.size
          clear q1
          go_wp2_with fail
          (with_reducible refine (t_digits_x _ (s) (1) (1) (by omega) (by omega) hs ((k : Int)) (by have h9 := hk; omega)).mono ?_); rintro e w2 ⟨rfl, q2⟩
          have bw2 := bw1.trans (q2.mono bw1.size)
          have lw2 := q2.size
          clear q2 bw1
          go_wp2_with fail
          go_ret
          exact retI (by omega) bw2
      · have hl : 1 + k < s.length := by rcases hdd with e | e <;> exact atB_in hd (by rw [e]; decide)
        have hwe : IntKind.i64.wrap (1 + (k : Int)) = 1 + (k : Int) := IntWalk.i64_in _ ⟨by omega, by omega⟩
        have hwe1 : IntKind.i64.wrap (1 + (k : Int) + 1) = 1 + (k : Int) + 1 := IntWalk.i64_in _ ⟨by omega, by omega⟩
        have hget : ∀ h, (⟨s.toArray⟩ : ByteArray)[1 + k]'h = d := fun h => by rw [← hd]; exact (atB_lt hl).symm
        have et : (1 + (k : Int)).toNat = 1 + k := by omega
        have hei : 1 + (k : Int) < (s.length : Int) := by omega
        have he0 : (0 : Int) ≤ 1 + (k : Int) := by omega
        rcases hdd with hd46 | hd47
        · have e46 : (((d.toNat : Nat) : Int) == 46) = true := (byte_eq d 46).trans (by simp [hd46])
          clear hd46
          rcases hc with ⟨ht0, hv9⟩ | ⟨htp, hv9⟩
          · replace hv9 := hv9.symm
            subst hv9
            subst ht0
            go_enter Tryz.func13, Tryz.ntmps13
            go_wp2_with fail
            (with_reducible refine (prefix_v _ (s) true hM).mono ?_); rintro e w1 ⟨rfl, q1⟩
            have bw1 := (brefl w).trans (q1.mono (brefl w).size)
            have lw1 := q1.size
            clear q1
            go_wp2_with fail
            (with_reducible refine (t_digits_x _ (s) (1) (1) (by omega) (by omega) hs ((k : Int)) (by have h9 := hk; omega)).mono ?_); rintro e w2 ⟨rfl, q2⟩
            have bw2 := bw1.trans (q2.mono bw1.size)
            have lw2 := q2.size
            clear q2 bw1
            go_wp2_with fail
            (with_reducible refine (t_digits_x _ (s) ((1 + (k : Int) + 1)) (1 + k + 1) (by omega) (by omega) hs (0) (by have h9 := ht; omega)).mono ?_); rintro e w3 ⟨rfl, q3⟩
            have bw3 := bw2.trans (q3.mono bw2.size)
            have lw3 := q3.size
            clear q3 bw2
            go_wp2_with fail
            go_ret
            exact retI (by omega) bw3
          · replace hv9 := hv9.symm
            subst hv9
            have ht9 : ((0 : Int) < (t : Int)) = True := by simp; omega
            have htl : 1 + k + 1 + t ≤ s.length := by have := digN_drop ht htp; omega
            have hwt : IntKind.i64.wrap (1 + (t : Int)) = 1 + (t : Int) := IntWalk.i64_in _ ⟨by omega, by omega⟩
            have hwt2 : IntKind.i64.wrap (1 + (k : Int) + (1 + (t : Int))) = 1 + (k : Int) + (1 + (t : Int)) := IntWalk.i64_in _ ⟨by omega, by omega⟩
            go_enter Tryz.func13, Tryz.ntmps13
            go_wp2_with fail
            (with_reducible refine (prefix_v _ (s) true hM).mono ?_); rintro e w1 ⟨rfl, q1⟩
            have bw1 := (brefl w).trans (q1.mono (brefl w).size)
            have lw1 := q1.size
            clear q1
            go_wp2_with fail
            (with_reducible refine (t_digits_x _ (s) (1) (1) (by omega) (by omega) hs ((k : Int)) (by have h9 := hk; omega)).mono ?_); rintro e w2 ⟨rfl, q2⟩
            have bw2 := bw1.trans (q2.mono bw1.size)
            have lw2 := q2.size
            clear q2 bw1
            go_wp2_with fail
            (with_reducible refine (t_digits_x _ (s) ((1 + (k : Int) + 1)) (1 + k + 1) (by omega) (by omega) hs ((t : Int)) (by have h9 := ht; omega)).mono ?_); rintro e w3 ⟨rfl, q3⟩
            have bw3 := bw2.trans (q3.mono bw2.size)
            have lw3 := q3.size
            clear q3 bw2
            go_wp2_with fail
            go_ret
            exact retI (by omega) bw3
        · have e46 : (((d.toNat : Nat) : Int) == 46) = false := (byte_eq d 46).trans (by simp [hd47])
          have e47 : (((d.toNat : Nat) : Int) == 47) = true := (byte_eq d 47).trans (by simp [hd47])
          clear hd47
          rcases hc with ⟨ht0, hv9⟩ | ⟨htp, hv9⟩
          · replace hv9 := hv9.symm
            subst hv9
            subst ht0
            go_enter Tryz.func13, Tryz.ntmps13
            go_wp2_with fail
            (with_reducible refine (prefix_v _ (s) true hM).mono ?_); rintro e w1 ⟨rfl, q1⟩
            have bw1 := (brefl w).trans (q1.mono (brefl w).size)
            have lw1 := q1.size
            clear q1
            go_wp2_with fail
            (with_reducible refine (t_digits_x _ (s) (1) (1) (by omega) (by omega) hs ((k : Int)) (by have h9 := hk; omega)).mono ?_); rintro e w2 ⟨rfl, q2⟩
            have bw2 := bw1.trans (q2.mono bw1.size)
            have lw2 := q2.size
            clear q2 bw1
            go_wp2_with fail
            (with_reducible refine (t_digits_x _ (s) ((1 + (k : Int) + 1)) (1 + k + 1) (by omega) (by omega) hs (0) (by have h9 := ht; omega)).mono ?_); rintro e w3 ⟨rfl, q3⟩
            have bw3 := bw2.trans (q3.mono bw2.size)
            have lw3 := q3.size
            clear q3 bw2
            go_wp2_with fail
            go_ret
            exact retI (by omega) bw3
          · replace hv9 := hv9.symm
            subst hv9
            have ht9 : ((0 : Int) < (t : Int)) = True := by simp; omega
            have htl : 1 + k + 1 + t ≤ s.length := by have := digN_drop ht htp; omega
            have hwt : IntKind.i64.wrap (1 + (t : Int)) = 1 + (t : Int) := IntWalk.i64_in _ ⟨by omega, by omega⟩
            have hwt2 : IntKind.i64.wrap (1 + (k : Int) + (1 + (t : Int))) = 1 + (k : Int) + (1 + (t : Int)) := IntWalk.i64_in _ ⟨by omega, by omega⟩
            go_enter Tryz.func13, Tryz.ntmps13
            go_wp2_with fail
            (with_reducible refine (prefix_v _ (s) true hM).mono ?_); rintro e w1 ⟨rfl, q1⟩
            have bw1 := (brefl w).trans (q1.mono (brefl w).size)
            have lw1 := q1.size
            clear q1
            go_wp2_with fail
            (with_reducible refine (t_digits_x _ (s) (1) (1) (by omega) (by omega) hs ((k : Int)) (by have h9 := hk; omega)).mono ?_); rintro e w2 ⟨rfl, q2⟩
            have bw2 := bw1.trans (q2.mono bw1.size)
            have lw2 := q2.size
            clear q2 bw1
            go_wp2_with fail
            (with_reducible refine (t_digits_x _ (s) ((1 + (k : Int) + 1)) (1 + k + 1) (by omega) (by omega) hs ((t : Int)) (by have h9 := ht; omega)).mono ?_); rintro e w3 ⟨rfl, q3⟩
            have bw3 := bw2.trans (q3.mono bw2.size)
            have lw3 := q3.size
            clear q3 bw2
            go_wp2_with fail
            go_ret
            exact retI (by omega) bw3
  · simp only [Nat.zero_add] at hk hc
    have hM : headM s = false := by rw [headM_at]; simp [ham]
    clear ham
    rcases hc with ⟨hk0, hv0⟩ | ⟨hkp, d, hd, hc⟩
    · subst hv0
      subst hk0
      go_enter Tryz.func13, Tryz.ntmps13
      go_wp2_with fail
      (with_reducible refine (prefix_v _ (s) false hM).mono ?_); rintro e w1 ⟨rfl, q1⟩
      have bw1 := (brefl w).trans (q1.mono (brefl w).size)
      have lw1 := q1.size
      clear q1
      go_wp2_with fail
      (with_reducible refine (t_digits_x _ (s) (0) (0) (by omega) (by omega) hs (0) (by have h9 := hk; omega)).mono ?_); rintro e w2 ⟨rfl, q2⟩
      have bw2 := bw1.trans (q2.mono bw1.size)
      have lw2 := q2.size
      clear q2 bw1
      go_wp2_with fail
      go_ret
      exact retI (by omega) bw2
    · have hle : k ≤ s.length := by have := digN_drop hk hkp; omega
      have hk9 : ((k : Int) == 0) = false := by simp; omega
      have hk8 : ((k : Int) = 0) = False := by simp; omega
      rcases hc with ⟨hd1, hd2, hv9⟩ | ⟨hdd, t, ht, hc⟩
      · have e46 : (((d.toNat : Nat) : Int) == 46) = false := (byte_eq d 46).trans (by simp [hd1])
        have e47 : (((d.toNat : Nat) : Int) == 47) = false := (byte_eq d 47).trans (by simp [hd2])
        clear hd1 hd2
        replace hv9 := hv9.symm
        subst hv9
        rcases Nat.lt_or_ge (k) s.length with hl | hl
        · have hget : ∀ h, (⟨s.toArray⟩ : ByteArray)[k]'h = d := fun h => by rw [← hd]; exact (atB_lt hl).symm
          have et : ((k : Int)).toNat = k := by omega
          have hei : (k : Int) < (s.length : Int) := by omega
          have he0 : (0 : Int) ≤ (k : Int) := by omega
          go_enter Tryz.func13, Tryz.ntmps13
          go_wp2_with fail
          (with_reducible refine (prefix_v _ (s) false hM).mono ?_); rintro e w1 ⟨rfl, q1⟩
          have bw1 := (brefl w).trans (q1.mono (brefl w).size)
          have lw1 := q1.size
          clear q1
          go_wp2_with fail
          (with_reducible refine (t_digits_x _ (s) (0) (0) (by omega) (by omega) hs ((k : Int)) (by have h9 := hk; omega)).mono ?_); rintro e w2 ⟨rfl, q2⟩
          have bw2 := bw1.trans (q2.mono bw1.size)
          have lw2 := q2.size
          clear q2 bw1
          go_wp2_with fail
          go_ret
          exact retI (by omega) bw2
        · have hei : ((k : Int) < (s.length : Int)) = False := by simp; omega
          go_enter Tryz.func13, Tryz.ntmps13
          go_wp2_with fail
          (with_reducible refine (prefix_v _ (s) false hM).mono ?_); rintro e w1 ⟨rfl, q1⟩
          have bw1 := (brefl w).trans (q1.mono (brefl w).size)
          have lw1 := q1.size
          clear q1
          go_wp2_with fail
          (with_reducible refine (t_digits_x _ (s) (0) (0) (by omega) (by omega) hs ((k : Int)) (by have h9 := hk; omega)).mono ?_); rintro e w2 ⟨rfl, q2⟩
          have bw2 := bw1.trans (q2.mono bw1.size)
          have lw2 := q2.size
          clear q2 bw1
          go_wp2_with fail
          go_ret
          exact retI (by omega) bw2
      · have hl : k < s.length := by rcases hdd with e | e <;> exact atB_in hd (by rw [e]; decide)
        have hwe1 : IntKind.i64.wrap ((k : Int) + 1) = (k : Int) + 1 := IntWalk.i64_in _ ⟨by omega, by omega⟩
        have hget : ∀ h, (⟨s.toArray⟩ : ByteArray)[k]'h = d := fun h => by rw [← hd]; exact (atB_lt hl).symm
        have et : ((k : Int)).toNat = k := by omega
        have hei : (k : Int) < (s.length : Int) := by omega
        have he0 : (0 : Int) ≤ (k : Int) := by omega
        rcases hdd with hd46 | hd47
        · have e46 : (((d.toNat : Nat) : Int) == 46) = true := (byte_eq d 46).trans (by simp [hd46])
          clear hd46
          rcases hc with ⟨ht0, hv9⟩ | ⟨htp, hv9⟩
          · replace hv9 := hv9.symm
            subst hv9
            subst ht0
            go_enter Tryz.func13, Tryz.ntmps13
            go_wp2_with fail
            (with_reducible refine (prefix_v _ (s) false hM).mono ?_); rintro e w1 ⟨rfl, q1⟩
            have bw1 := (brefl w).trans (q1.mono (brefl w).size)
            have lw1 := q1.size
            clear q1
            go_wp2_with fail
            (with_reducible refine (t_digits_x _ (s) (0) (0) (by omega) (by omega) hs ((k : Int)) (by have h9 := hk; omega)).mono ?_); rintro e w2 ⟨rfl, q2⟩
            have bw2 := bw1.trans (q2.mono bw1.size)
            have lw2 := q2.size
            clear q2 bw1
            go_wp2_with fail
            (with_reducible refine (t_digits_x _ (s) (((k : Int) + 1)) (k + 1) (by omega) (by omega) hs (0) (by have h9 := ht; omega)).mono ?_); rintro e w3 ⟨rfl, q3⟩
            have bw3 := bw2.trans (q3.mono bw2.size)
            have lw3 := q3.size
            clear q3 bw2
            go_wp2_with fail
            go_ret
            exact retI (by omega) bw3
          · replace hv9 := hv9.symm
            subst hv9
            have ht9 : ((0 : Int) < (t : Int)) = True := by simp; omega
            have htl : k + 1 + t ≤ s.length := by have := digN_drop ht htp; omega
            have hwt : IntKind.i64.wrap (1 + (t : Int)) = 1 + (t : Int) := IntWalk.i64_in _ ⟨by omega, by omega⟩
            have hwt2 : IntKind.i64.wrap ((k : Int) + (1 + (t : Int))) = (k : Int) + (1 + (t : Int)) := IntWalk.i64_in _ ⟨by omega, by omega⟩
            go_enter Tryz.func13, Tryz.ntmps13
            go_wp2_with fail
            (with_reducible refine (prefix_v _ (s) false hM).mono ?_); rintro e w1 ⟨rfl, q1⟩
            have bw1 := (brefl w).trans (q1.mono (brefl w).size)
            have lw1 := q1.size
            clear q1
            go_wp2_with fail
            (with_reducible refine (t_digits_x _ (s) (0) (0) (by omega) (by omega) hs ((k : Int)) (by have h9 := hk; omega)).mono ?_); rintro e w2 ⟨rfl, q2⟩
            have bw2 := bw1.trans (q2.mono bw1.size)
            have lw2 := q2.size
            clear q2 bw1
            go_wp2_with fail
            (with_reducible refine (t_digits_x _ (s) (((k : Int) + 1)) (k + 1) (by omega) (by omega) hs ((t : Int)) (by have h9 := ht; omega)).mono ?_); rintro e w3 ⟨rfl, q3⟩
            have bw3 := bw2.trans (q3.mono bw2.size)
            have lw3 := q3.size
            clear q3 bw2
            go_wp2_with fail
            go_ret
            exact retI (by omega) bw3
        · have e46 : (((d.toNat : Nat) : Int) == 46) = false := (byte_eq d 46).trans (by simp [hd47])
          have e47 : (((d.toNat : Nat) : Int) == 47) = true := (byte_eq d 47).trans (by simp [hd47])
          clear hd47
          rcases hc with ⟨ht0, hv9⟩ | ⟨htp, hv9⟩
          · replace hv9 := hv9.symm
            subst hv9
            subst ht0
            go_enter Tryz.func13, Tryz.ntmps13
            go_wp2_with fail
            (with_reducible refine (prefix_v _ (s) false hM).mono ?_); rintro e w1 ⟨rfl, q1⟩
            have bw1 := (brefl w).trans (q1.mono (brefl w).size)
            have lw1 := q1.size
            clear q1
            go_wp2_with fail
            (with_reducible refine (t_digits_x _ (s) (0) (0) (by omega) (by omega) hs ((k : Int)) (by have h9 := hk; omega)).mono ?_); rintro e w2 ⟨rfl, q2⟩
            have bw2 := bw1.trans (q2.mono bw1.size)
            have lw2 := q2.size
            clear q2 bw1
            go_wp2_with fail
            (with_reducible refine (t_digits_x _ (s) (((k : Int) + 1)) (k + 1) (by omega) (by omega) hs (0) (by have h9 := ht; omega)).mono ?_); rintro e w3 ⟨rfl, q3⟩
            have bw3 := bw2.trans (q3.mono bw2.size)
            have lw3 := q3.size
            clear q3 bw2
            go_wp2_with fail
            go_ret
            exact retI (by omega) bw3
          · replace hv9 := hv9.symm
            subst hv9
            have ht9 : ((0 : Int) < (t : Int)) = True := by simp; omega
            have htl : k + 1 + t ≤ s.length := by have := digN_drop ht htp; omega
            have hwt : IntKind.i64.wrap (1 + (t : Int)) = 1 + (t : Int) := IntWalk.i64_in _ ⟨by omega, by omega⟩
            have hwt2 : IntKind.i64.wrap ((k : Int) + (1 + (t : Int))) = (k : Int) + (1 + (t : Int)) := IntWalk.i64_in _ ⟨by omega, by omega⟩
            go_enter Tryz.func13, Tryz.ntmps13
            go_wp2_with fail
            (with_reducible refine (prefix_v _ (s) false hM).mono ?_); rintro e w1 ⟨rfl, q1⟩
            have bw1 := (brefl w).trans (q1.mono (brefl w).size)
            have lw1 := q1.size
            clear q1
            go_wp2_with fail
            (with_reducible refine (t_digits_x _ (s) (0) (0) (by omega) (by omega) hs ((k : Int)) (by have h9 := hk; omega)).mono ?_); rintro e w2 ⟨rfl, q2⟩
            have bw2 := bw1.trans (q2.mono bw1.size)
            have lw2 := q2.size
            clear q2 bw1
            go_wp2_with fail
            (with_reducible refine (t_digits_x _ (s) (((k : Int) + 1)) (k + 1) (by omega) (by omega) hs ((t : Int)) (by have h9 := ht; omega)).mono ?_); rintro e w3 ⟨rfl, q3⟩
            have bw3 := bw2.trans (q3.mono bw2.size)
            have lw3 := q3.size
            clear q3 bw2
            go_wp2_with fail
            go_ret
            exact retI (by omega) bw3
end Go.Proofs.YtjanfdkbficmbaaGreatDoor

/- Walks: tokens: the first one. -/
namespace Go.Proofs.YtjanfdkbficmbaaGreatDoor
open Go Go.RowKit Bn
attribute [local go_sem ↓] Go.wp_at_zero Go.wp_at_succ
theorem badEnd_at (s : List UInt8) (i : Nat) : badEnd (s.drop i) = (isLet (atB s i) || atB s i == 95 || atB s i == 46 || atB s i == 47) := by
  rcases Nat.lt_or_ge i s.length with h | h
  · rw [drop_at h]; rfl
  · rw [List.drop_eq_nil_of_le h, atB_ge h]; rfl
def firstV : First → Value
  | .ok k n => .tuple #[.int .i64 (k : Nat), .int .i64 (n : Nat), .nilIface]
  | .err x => .tuple #[.int .i64 0, .int .i64 0, .iface 42 (.int .i64 (x : Nat))]
theorem first_cases {s : List UInt8} {i : Nat} {f : First} (hi : i < s.length) (hf : firstT (s.drop i) = f) : ∃ c, atB s i = c ∧ ∃ n, wordN (s.drop i) = n ∧ ∃ m, numN (s.drop i) = m ∧ n ≤ s.length - i ∧ m ≤ s.length - i ∧
    ((isSgn c = true ∧ n = 0 ∧ m = 0 ∧ f = .ok 2 1) ∨ (isSgn c = false ∧ 24 < n ∧ f = .err 5) ∨ (isSgn c = false ∧ 0 < n ∧ n ≤ 24 ∧ f = .ok 0 n) ∨
     (isSgn c = false ∧ n = 0 ∧ m = 0 ∧ f = .err 2) ∨ (isSgn c = false ∧ n = 0 ∧ 60 < m ∧ f = .err 4) ∨
     (isSgn c = false ∧ n = 0 ∧ 0 < m ∧ m ≤ 60 ∧ ∃ d, atB s (i + m) = d ∧ ((isLet d = true ∧ f = .err 2) ∨ (isLet d = false ∧ d = 95 ∧ f = .err 2) ∨ (isLet d = false ∧ d = 46 ∧ f = .err 2) ∨ (isLet d = false ∧ d = 47 ∧ f = .err 2) ∨
       (isLet d = false ∧ d ≠ 95 ∧ d ≠ 46 ∧ d ≠ 47 ∧ f = .ok 1 m)))) := by
  have h1 := wordN_le (s.drop i)
  have h2 := numN_le (s.drop i)
  rw [List.length_drop] at h1 h2
  refine ⟨_, rfl, _, rfl, _, rfl, h1, h2, ?_⟩
  subst hf
  by_cases hs : isSgn (atB s i) = true
  · left
    have e0 : wordN (s.drop i) = 0 := wordN_no (by
      rw [isSgn_nat] at hs
      rw [isLet_nat]; simp at hs ⊢; omega)
    have e1 : numN (s.drop i) = 0 := by
      obtain ⟨m, k, hm, hk, hc⟩ := num_cases (s := s) (i := i) rfl
      rw [isSgn_nat] at hs
      rcases hm with ⟨_, h⟩ | ⟨rfl, h⟩
      · rw [h] at hs; exact absurd hs (by decide)
      · rcases hc with ⟨_, h⟩ | ⟨h, _⟩
        · exact h
        · exfalso
          rw [Nat.add_zero, drop_at hi] at hk
          unfold digN at hk
          rw [List.takeWhile_cons, if_neg (by rw [isDg_nat]; simp at hs ⊢; omega)] at hk
          simp at hk; omega
    refine ⟨hs, e0, e1, ?_⟩
    rw [drop_at hi, firstT, if_pos hs]
  · have hs : isSgn (atB s i) = false := by simpa using hs
    right
    have e : firstT (s.drop i) = (if 0 < wordN (s.drop i) then (if 24 < wordN (s.drop i) then .err 5 else .ok 0 (wordN (s.drop i)))
      else if numN (s.drop i) = 0 then .err 2 else if 60 < numN (s.drop i) then .err 4 else if badEnd ((s.drop i).drop (numN (s.drop i))) then .err 2 else .ok 1 (numN (s.drop i))) := by
      conv => lhs; rw [drop_at hi]
      rw [firstT, if_neg (by rw [hs]; decide), ← drop_at hi]
    rw [e, List.drop_drop]
    by_cases a : 0 < wordN (s.drop i)
    · rw [if_pos a]
      by_cases b : 24 < wordN (s.drop i)
      · rw [if_pos b]; exact .inl ⟨hs, b, rfl⟩
      · rw [if_neg b]; exact .inr (.inl ⟨hs, a, by omega, rfl⟩)
    · rw [if_neg a]
      have a : wordN (s.drop i) = 0 := by omega
      right; right
      by_cases b : numN (s.drop i) = 0
      · rw [if_pos b]; exact .inl ⟨hs, a, b, rfl⟩
      · rw [if_neg b]
        by_cases b2 : 60 < numN (s.drop i)
        · rw [if_pos b2]; exact .inr (.inl ⟨hs, a, b2, rfl⟩)
        · rw [if_neg b2]
          refine .inr (.inr ⟨hs, a, by omega, by omega, _, rfl, ?_⟩)
          rw [badEnd_at]
          generalize atB s (i + numN (s.drop i)) = d
          cases hl : isLet d
          · by_cases c1 : d = 95
            · subst c1; exact .inr (.inl ⟨rfl, rfl, rfl⟩)
            · by_cases c2 : d = 46
              · subst c2; exact .inr (.inr (.inl ⟨rfl, rfl, rfl⟩))
              · by_cases c3 : d = 47
                · subst c3; exact .inr (.inr (.inr (.inl ⟨rfl, rfl, rfl⟩)))
                · refine .inr (.inr (.inr (.inr ⟨rfl, c1, c2, c3, ?_⟩)))
                  rw [beq_eq_false_iff_ne.2 c1, beq_eq_false_iff_ne.2 c2, beq_eq_false_iff_ne.2 c3]; rfl
          · exact .inl ⟨rfl, rfl⟩
theorem sgn_v (w : World) (c : UInt8) (v : Bool) (hv : isSgn c = v) : Calls Tryz.prog 27 #[.string ⟨#[123, 125, 59, 46]⟩, .int .u8 (c.toNat : Nat)] w (fun e w' => ∃ x : Int, decide (0 ≤ x) = v ∧ e = .returned (.int .i64 x) ∧ Below w.heap.size w w') := by
  refine (Tryz.strings_IndexByte ⟨#[123, 125, 59, 46]⟩ (c.toNat : Nat) w).mono fun e w' ⟨he, hw⟩ => ⟨_, ?_, he, hw ▸ brefl _⟩
  have ec : ((c.toNat : Nat) : Int).toNat.toUInt8 = c := by simp
  rw [ec, ← hv]
  unfold isSgn
  show decide (0 ≤ Lib.indexByte [123, 125, 59, 46] c) = _
  unfold Lib.indexByte Lib.indexByte Lib.indexByte Lib.indexByte Lib.indexByte
  by_cases h1 : c = 123
  · subst h1; rfl
  · by_cases h2 : c = 125
    · subst h2; rfl
    · by_cases h3 : c = 59
      · subst h3; rfl
      · by_cases h4 : c = 46
        · subst h4; rfl
        · have g : ∀ {a : UInt8}, c ≠ a → (a == c) = false := fun h => beq_eq_false_iff_ne.2 (fun e => h e.symm)
          rw [beq_eq_false_iff_ne.2 h1, beq_eq_false_iff_ne.2 h2, beq_eq_false_iff_ne.2 h3, beq_eq_false_iff_ne.2 h4]
          simp [g h1, g h2, g h3, g h4]
theorem t_first (w : World) (s : List UInt8) (hp : 0 < s.length) (hs : s.length < 4611686018427387904) (f : First) (hf : firstT s = f) : Calls Tryz.prog 12 #[strV s] w (RetV w (firstV f)) := by
  have hszs := size_v s
  obtain ⟨c, hc0, n, hwn, m, hnm, hnl, hml, hcs⟩ := first_cases (s := s) (i := 0) hp hf
  clear hf
  have hwn : wordN s = n := hwn
  have hnm : numN s = m := hnm
  have hget0 : ∀ h, (⟨s.toArray⟩ : ByteArray)[0]'h = c := fun h => by rw [← hc0]; exact (atB_lt hp).symm
  have hp1 : (0 : Int) < (s.length : Int) := by omega
  clear hc0
  rcases hcs with ⟨hsg, hn0, hm0, rfl⟩ | ⟨hsg, hn1, rfl⟩ | ⟨hsg, hn1, hn2, rfl⟩ | ⟨hsg, hn0, hm0, rfl⟩ | ⟨hsg, hn0, hm1, rfl⟩ | ⟨hsg, hn0, hm1, hm2, d, hd, hc⟩
  · go_enter Tryz.func12, Tryz.ntmps12
    go_wp2_with fail
    (with_reducible refine (sgn_v _ c _ hsg).mono ?_); rintro e w1 ⟨x, hx, rfl, hb1⟩
    have hx9 : (0 ≤ x) = True := by simpa using hx
    clear hx
    have bw1 := hb1
    go_wp2_with fail
    refine bodyPost_ret (v := .tuple #[.int .i64 2, .int .i64 1, .nilIface]) (by simp [results, Tryz.results12, go_sem, *] <;> first | rfl | exact ⟨rfl, rfl⟩) rfl ?_
    exact ⟨rfl, bw1⟩
  · have hgt : ((0 : Int) < (n : Int)) = True := by simp; omega
    have hgt2 : ((24 : Int) < (n : Int)) = True := by simp; omega
    go_enter Tryz.func12, Tryz.ntmps12
    go_wp2_with fail
    (with_reducible refine (sgn_v _ c _ hsg).mono ?_); rintro e w1 ⟨x, hx, rfl, hb1⟩
    have hx9 : (0 ≤ x) = False := by simpa using hx
    clear hx
    have bw1 := hb1
    go_wp2_with fail
    (with_reducible refine (t_word _ (s) hs (n) hwn).mono ?_); rintro e w2 ⟨rfl, q2⟩
    have bw2 := bw1.trans (q2.mono bw1.size)
    have lw2 := q2.size
    clear q2
    go_wp2_with fail
    refine bodyPost_ret (v := .tuple #[.int .i64 0, .int .i64 0, .iface 42 (.int .i64 5)]) (by simp [results, Tryz.results12, go_sem, *] <;> first | rfl | exact ⟨rfl, rfl⟩) rfl ?_
    exact ⟨rfl, bw2⟩
  · have hgt : ((0 : Int) < (n : Int)) = True := by simp; omega
    have hgt2 : ((24 : Int) < (n : Int)) = False := by simp; omega
    go_enter Tryz.func12, Tryz.ntmps12
    go_wp2_with fail
    (with_reducible refine (sgn_v _ c _ hsg).mono ?_); rintro e w1 ⟨x, hx, rfl, hb1⟩
    have hx9 : (0 ≤ x) = False := by simpa using hx
    clear hx
    have bw1 := hb1
    go_wp2_with fail
    (with_reducible refine (t_word _ (s) hs (n) hwn).mono ?_); rintro e w2 ⟨rfl, q2⟩
    have bw2 := bw1.trans (q2.mono bw1.size)
    have lw2 := q2.size
    clear q2
    go_wp2_with fail
    refine bodyPost_ret (v := .tuple #[.int .i64 0, .int .i64 n, .nilIface]) (by simp [results, Tryz.results12, go_sem, *] <;> first | rfl | exact ⟨rfl, rfl⟩) rfl ?_
    exact ⟨rfl, bw2⟩
  · subst hn0
    subst hm0
    go_enter Tryz.func12, Tryz.ntmps12
    go_wp2_with fail
    (with_reducible refine (sgn_v _ c _ hsg).mono ?_); rintro e w1 ⟨x, hx, rfl, hb1⟩
    have hx9 : (0 ≤ x) = False := by simpa using hx
    clear hx
    have bw1 := hb1
    go_wp2_with fail
    (with_reducible refine (t_word _ (s) hs (0) hwn).mono ?_); rintro e w2 ⟨rfl, q2⟩
    have bw2 := bw1.trans (q2.mono bw1.size)
    have lw2 := q2.size
    clear q2
    go_wp2_with fail
    (with_reducible refine (t_number _ (s) hs (0) hnm).mono ?_); rintro e w3 ⟨rfl, q3⟩
    have bw3 := bw2.trans (q3.mono bw2.size)
    have lw3 := q3.size
    clear q3 bw2
    go_wp2_with fail
    refine bodyPost_ret (v := .tuple #[.int .i64 0, .int .i64 0, .iface 42 (.int .i64 2)]) (by simp [results, Tryz.results12, go_sem, *] <;> first | rfl | exact ⟨rfl, rfl⟩) rfl ?_
    exact ⟨rfl, bw3⟩
  · subst hn0
    have hm9 : ((m : Int) == 0) = false := by simp; omega
    have hg2 : ((60 : Int) < (m : Int)) = True := by simp; omega
    go_enter Tryz.func12, Tryz.ntmps12
    go_wp2_with fail
    (with_reducible refine (sgn_v _ c _ hsg).mono ?_); rintro e w1 ⟨x, hx, rfl, hb1⟩
    have hx9 : (0 ≤ x) = False := by simpa using hx
    clear hx
    have bw1 := hb1
    go_wp2_with fail
    (with_reducible refine (t_word _ (s) hs (0) hwn).mono ?_); rintro e w2 ⟨rfl, q2⟩
    have bw2 := bw1.trans (q2.mono bw1.size)
    have lw2 := q2.size
    clear q2
    go_wp2_with fail
    (with_reducible refine (t_number _ (s) hs (m) hnm).mono ?_); rintro e w3 ⟨rfl, q3⟩
    have bw3 := bw2.trans (q3.mono bw2.size)
    have lw3 := q3.size
    clear q3 bw2
    go_wp2_with fail
    refine bodyPost_ret (v := .tuple #[.int .i64 0, .int .i64 0, .iface 42 (.int .i64 4)]) (by simp [results, Tryz.results12, go_sem, *] <;> first | rfl | exact ⟨rfl, rfl⟩) rfl ?_
    exact ⟨rfl, bw3⟩
  · subst hn0
    have hm9 : ((m : Int) == 0) = false := by simp; omega
    have hg2 : ((60 : Int) < (m : Int)) = False := by simp; omega
    rw [Nat.zero_add] at hd
    rcases Nat.lt_or_ge m s.length with hl9 | hl9
    · have hget : ∀ h, (⟨s.toArray⟩ : ByteArray)[m]'h = d := fun h => by rw [← hd]; exact (atB_lt hl9).symm
      have hml1 : ((m : Int) < (s.length : Int)) = True := by simp; omega
      have hml2 : m < s.length := hl9
      clear hd
      rcases hc with ⟨hl, rfl⟩ | ⟨hl, h95, rfl⟩ | ⟨hl, h46, rfl⟩ | ⟨hl, h47, rfl⟩ | ⟨hl, h95, h46, h47, rfl⟩
      · skip
        go_enter Tryz.func12, Tryz.ntmps12
        go_wp2_with fail
        (with_reducible refine (sgn_v _ c _ hsg).mono ?_); rintro e w1 ⟨x, hx, rfl, hb1⟩
        have hx9 : (0 ≤ x) = False := by simpa using hx
        clear hx
        have bw1 := hb1
        go_wp2_with fail
        (with_reducible refine (t_word _ (s) hs (0) hwn).mono ?_); rintro e w2 ⟨rfl, q2⟩
        have bw2 := bw1.trans (q2.mono bw1.size)
        have lw2 := q2.size
        clear q2
        go_wp2_with fail
        (with_reducible refine (t_number _ (s) hs (m) hnm).mono ?_); rintro e w3 ⟨rfl, q3⟩
        have bw3 := bw2.trans (q3.mono bw2.size)
        have lw3 := q3.size
        clear q3 bw2
        go_wp2_with fail
        (with_reducible refine (t_letter _ d true hl).mono ?_); rintro e w4 ⟨rfl, q4⟩
        have bw4 := bw3.trans (q4.mono bw3.size)
        have lw4 := q4.size
        clear q4 bw3
        go_wp2_with fail
        refine bodyPost_ret (v := .tuple #[.int .i64 0, .int .i64 0, .iface 42 (.int .i64 2)]) (by simp [results, Tryz.results12, go_sem, *] <;> first | rfl | exact ⟨rfl, rfl⟩) rfl ?_
        exact ⟨rfl, bw4⟩
      · have e95 : (((d.toNat : Nat) : Int) == 95) = true := (byte_eq d 95).trans (by simp [h95])
        clear h95
        go_enter Tryz.func12, Tryz.ntmps12
        go_wp2_with fail
        (with_reducible refine (sgn_v _ c _ hsg).mono ?_); rintro e w1 ⟨x, hx, rfl, hb1⟩
        have hx9 : (0 ≤ x) = False := by simpa using hx
        clear hx
        have bw1 := hb1
        go_wp2_with fail
        (with_reducible refine (t_word _ (s) hs (0) hwn).mono ?_); rintro e w2 ⟨rfl, q2⟩
        have bw2 := bw1.trans (q2.mono bw1.size)
        have lw2 := q2.size
        clear q2
        go_wp2_with fail
        (with_reducible refine (t_number _ (s) hs (m) hnm).mono ?_); rintro e w3 ⟨rfl, q3⟩
        have bw3 := bw2.trans (q3.mono bw2.size)
        have lw3 := q3.size
        clear q3 bw2
        go_wp2_with fail
        (with_reducible refine (t_letter _ d false hl).mono ?_); rintro e w4 ⟨rfl, q4⟩
        have bw4 := bw3.trans (q4.mono bw3.size)
        have lw4 := q4.size
        clear q4 bw3
        go_wp2_with fail
        refine bodyPost_ret (v := .tuple #[.int .i64 0, .int .i64 0, .iface 42 (.int .i64 2)]) (by simp [results, Tryz.results12, go_sem, *] <;> first | rfl | exact ⟨rfl, rfl⟩) rfl ?_
        exact ⟨rfl, bw4⟩
      · have e95 : (((d.toNat : Nat) : Int) == 95) = false := (byte_eq d 95).trans (by simp [h46])
        have e46 : (((d.toNat : Nat) : Int) == 46) = true := (byte_eq d 46).trans (by simp [h46])
        clear h46
        go_enter Tryz.func12, Tryz.ntmps12
        go_wp2_with fail
        (with_reducible refine (sgn_v _ c _ hsg).mono ?_); rintro e w1 ⟨x, hx, rfl, hb1⟩
        have hx9 : (0 ≤ x) = False := by simpa using hx
        clear hx
        have bw1 := hb1
        go_wp2_with fail
        (with_reducible refine (t_word _ (s) hs (0) hwn).mono ?_); rintro e w2 ⟨rfl, q2⟩
        have bw2 := bw1.trans (q2.mono bw1.size)
        have lw2 := q2.size
        clear q2
        go_wp2_with fail
        (with_reducible refine (t_number _ (s) hs (m) hnm).mono ?_); rintro e w3 ⟨rfl, q3⟩
        have bw3 := bw2.trans (q3.mono bw2.size)
        have lw3 := q3.size
        clear q3 bw2
        go_wp2_with fail
        (with_reducible refine (t_letter _ d false hl).mono ?_); rintro e w4 ⟨rfl, q4⟩
        have bw4 := bw3.trans (q4.mono bw3.size)
        have lw4 := q4.size
        clear q4 bw3
        go_wp2_with fail
        refine bodyPost_ret (v := .tuple #[.int .i64 0, .int .i64 0, .iface 42 (.int .i64 2)]) (by simp [results, Tryz.results12, go_sem, *] <;> first | rfl | exact ⟨rfl, rfl⟩) rfl ?_
        exact ⟨rfl, bw4⟩
      · have e95 : (((d.toNat : Nat) : Int) == 95) = false := (byte_eq d 95).trans (by simp [h47])
        have e46 : (((d.toNat : Nat) : Int) == 46) = false := (byte_eq d 46).trans (by simp [h47])
        have e47 : (((d.toNat : Nat) : Int) == 47) = true := (byte_eq d 47).trans (by simp [h47])
        clear h47
        go_enter Tryz.func12, Tryz.ntmps12
        go_wp2_with fail
        (with_reducible refine (sgn_v _ c _ hsg).mono ?_); rintro e w1 ⟨x, hx, rfl, hb1⟩
        have hx9 : (0 ≤ x) = False := by simpa using hx
        clear hx
        have bw1 := hb1
        go_wp2_with fail
        (with_reducible refine (t_word _ (s) hs (0) hwn).mono ?_); rintro e w2 ⟨rfl, q2⟩
        have bw2 := bw1.trans (q2.mono bw1.size)
        have lw2 := q2.size
        clear q2
        go_wp2_with fail
        (with_reducible refine (t_number _ (s) hs (m) hnm).mono ?_); rintro e w3 ⟨rfl, q3⟩
        have bw3 := bw2.trans (q3.mono bw2.size)
        have lw3 := q3.size
        clear q3 bw2
        go_wp2_with fail
        (with_reducible refine (t_letter _ d false hl).mono ?_); rintro e w4 ⟨rfl, q4⟩
        have bw4 := bw3.trans (q4.mono bw3.size)
        have lw4 := q4.size
        clear q4 bw3
        go_wp2_with fail
        refine bodyPost_ret (v := .tuple #[.int .i64 0, .int .i64 0, .iface 42 (.int .i64 2)]) (by simp [results, Tryz.results12, go_sem, *] <;> first | rfl | exact ⟨rfl, rfl⟩) rfl ?_
        exact ⟨rfl, bw4⟩
      · have e95 : (((d.toNat : Nat) : Int) == 95) = false := (byte_eq d 95).trans (by simp [h95])
        have e46 : (((d.toNat : Nat) : Int) == 46) = false := (byte_eq d 46).trans (by simp [h46])
        have e47 : (((d.toNat : Nat) : Int) == 47) = false := (byte_eq d 47).trans (by simp [h47])
        clear h95 h46 h47
        go_enter Tryz.func12, Tryz.ntmps12
        go_wp2_with fail
        (with_reducible refine (sgn_v _ c _ hsg).mono ?_); rintro e w1 ⟨x, hx, rfl, hb1⟩
        have hx9 : (0 ≤ x) = False := by simpa using hx
        clear hx
        have bw1 := hb1
        go_wp2_with fail
        (with_reducible refine (t_word _ (s) hs (0) hwn).mono ?_); rintro e w2 ⟨rfl, q2⟩
        have bw2 := bw1.trans (q2.mono bw1.size)
        have lw2 := q2.size
        clear q2
        go_wp2_with fail
        (with_reducible refine (t_number _ (s) hs (m) hnm).mono ?_); rintro e w3 ⟨rfl, q3⟩
        have bw3 := bw2.trans (q3.mono bw2.size)
        have lw3 := q3.size
        clear q3 bw2
        go_wp2_with fail
        (with_reducible refine (t_letter _ d false hl).mono ?_); rintro e w4 ⟨rfl, q4⟩
        have bw4 := bw3.trans (q4.mono bw3.size)
        have lw4 := q4.size
        clear q4 bw3
        go_wp2_with fail
        refine bodyPost_ret (v := .tuple #[.int .i64 1, .int .i64 m, .nilIface]) (by simp [results, Tryz.results12, go_sem, *] <;> first | rfl | exact ⟨rfl, rfl⟩) rfl ?_
        exact ⟨rfl, bw4⟩
    · have hml1 : ((m : Int) < (s.length : Int)) = False := by simp; omega
      have hd0 : d = 0 := by rw [← hd]; exact atB_ge hl9
      subst hd0
      clear hd
      rcases hc with ⟨hl, rfl⟩ | ⟨hl, h95, rfl⟩ | ⟨hl, h46, rfl⟩ | ⟨hl, h47, rfl⟩ | ⟨hl, h95, h46, h47, rfl⟩
      · exact absurd hl (by decide)
      · exact absurd h95 (by decide)
      · exact absurd h46 (by decide)
      · exact absurd h47 (by decide)
      · clear h95 h46 h47 hl
        go_enter Tryz.func12, Tryz.ntmps12
        go_wp2_with fail
        (with_reducible refine (sgn_v _ c _ hsg).mono ?_); rintro e w1 ⟨x, hx, rfl, hb1⟩
        have hx9 : (0 ≤ x) = False := by simpa using hx
        clear hx
        have bw1 := hb1
        go_wp2_with fail
        (with_reducible refine (t_word _ (s) hs (0) hwn).mono ?_); rintro e w2 ⟨rfl, q2⟩
        have bw2 := bw1.trans (q2.mono bw1.size)
        have lw2 := q2.size
        clear q2
        go_wp2_with fail
        (with_reducible refine (t_number _ (s) hs (m) hnm).mono ?_); rintro e w3 ⟨rfl, q3⟩
        have bw3 := bw2.trans (q3.mono bw2.size)
        have lw3 := q3.size
        clear q3 bw2
        go_wp2_with fail
        refine bodyPost_ret (v := .tuple #[.int .i64 1, .int .i64 m, .nilIface]) (by simp [results, Tryz.results12, go_sem, *] <;> first | rfl | exact ⟨rfl, rfl⟩) rfl ?_
        exact ⟨rfl, bw3⟩
end Go.Proofs.YtjanfdkbficmbaaGreatDoor

/- Walks: tokens: Split. -/
namespace Go.Proofs.YtjanfdkbficmbaaGreatDoor
open Go Go.RowKit Bn
attribute [local go_sem ↓] Go.wp_at_zero Go.wp_at_succ
def tokC (t : Tkn) : List Value := [.int .i64 (t.kind : Nat), strV t.text, .int .i64 (t.line : Nat), .int .i64 (t.col : Nat)]
def tokCs (l : List Tkn) : List Value := l.flatMap tokC
theorem tokCs_snoc (l : List Tkn) (t : Tkn) : tokCs (l ++ [t]) = tokCs l ++ tokC t := by simp [tokCs]
def TkS (w : World) (A : Option Addr) (n c : Nat) (l : List Tkn) : Prop := l.length = n ∧ ((n = 0 ∧ A = none ∧ c = 0) ∨ ∃ g, A = some ⟨g, 0, none⟩ ∧ n ≤ c ∧ ∀ i v, (tokCs l)[i]? = some v → w.cell? ⟨g, i, none⟩ = some v)
theorem TkS.belw {w w' : World} {A : Option Addr} {n c : Nat} {l : List Tkn} (h : TkS w A n c l) (hb : Below w.heap.size w w') : TkS w' A n c l := by
  refine ⟨h.1, ?_⟩
  rcases h.2 with h | ⟨g, e, hc, h⟩
  · exact .inl h
  · exact .inr ⟨g, e, hc, fun i v hv => (hb.cell (p := ⟨g, i, none⟩) (World.block_lt_of_cell? w _ (h i v hv))).trans (h i v hv)⟩
theorem TkS.nil (w : World) : TkS w none 0 0 [] := ⟨rfl, .inl ⟨rfl, rfl, rfl⟩⟩
theorem TkS.of_own {w : World} {base : Nat} {e : TypeId} {v : Value} {l : List Tkn} (h : w.ownsRow base e 4 v l.length (tokCs l)) : ∃ A c, v = .slice A l.length c ∧ TkS w A l.length c l := by
  rcases h.2 with ⟨rfl, h0⟩ | ⟨g, cap, cur, rfl, hb, hg, hn, hc, hs, ht⟩
  · exact ⟨none, 0, by rw [h0], rfl, .inl ⟨h0, rfl, rfl⟩⟩
  · refine ⟨_, _, rfl, rfl, .inr ⟨g, rfl, hn, fun i v hv => ?_⟩⟩
    rw [cell_of_row w g i cur e (0, 0) hg]
    rw [← ht, List.getElem?_take] at hv
    split at hv
    · simpa using hv
    · cases hv
theorem own_below {w w' : World} {base : Nat} {e : TypeId} {size : Nat} {v : Value} {n : Nat} {xs : List Value} (h : w.ownsRow base e size v n xs) (hb : Below w.heap.size w w') : w'.ownsRow base e size v n xs := by
  refine ⟨h.1, ?_⟩
  rcases h.2 with h | ⟨g, cap, cur, hv, hb1, hg, rest⟩
  · exact .inl h
  · exact .inr ⟨g, cap, cur, hv, hb1, (hb.block g (lt_of_block hg)).trans hg, rest⟩
def pre (d : List Tkn) : Toks → Toks
  | .ok l => .ok (d ++ l)
  | .err x => .err x
theorem pre_nil (x : Toks) : pre [] x = x := by cases x <;> rfl
theorem pre_push (d : List Tkn) (t : Tkn) (x : Toks) : pre d (Toks.push t x) = pre (d ++ [t]) x := by cases x <;> simp [pre, Toks.push]
inductive SplitOut (s : List UInt8) (x : Int) (l : List Tkn) : Prop
  | big (h : 65536 < s.length) (hx : x = 4) (hl : l = [])
  | ok (h : s.length ≤ 65536) (ht : tokens s = .ok l) (hx : x = 0)
  | err (n : Nat) (h : s.length ≤ 65536) (ht : tokens s = .err n) (hx : x = (n : Int)) (hl : l = [])
theorem SplitOut.uniq {s : List UInt8} {x y : Int} {l m : List Tkn} (h : SplitOut s x l) (h' : SplitOut s y m) : x = y ∧ l = m := by
  rcases h with ⟨a, b, c⟩ | ⟨a, b, c⟩ | ⟨n, a, b, c, d⟩ <;> rcases h' with ⟨a', b', c'⟩ | ⟨a', b', c'⟩ | ⟨n', a', b', c', d'⟩ <;> first
    | omega
    | exact ⟨by rw [b, b'], by rw [c, c']⟩
    | (rw [b] at b'; injection b' with e; exact ⟨by rw [c, c'], e⟩)
    | (rw [b] at b'; cases b'; done)
    | (rw [b] at b'; injection b' with e; exact ⟨by rw [c, c', e], by rw [d, d']⟩)
def RetTks (w : World) (ev : Value) (l : List Tkn) (e : Ending) (w' : World) : Prop := ∃ A n c, e = .returned (.tuple #[.slice A n c, ev]) ∧ TkS w' A n c l ∧ Below w.heap.size w w'
def RetSp (ev : Int → Value) (w : World) (s : List UInt8) (e : Ending) (w' : World) : Prop := ∃ x l, SplitOut s x l ∧ RetTks w (ev x) l e w'
theorem info_tok : (Tryz.prog.info? 38).map (fun i => (i.zero, i.size, i.bytes)) = some (some (.agg #[.int .i64 0, .string ⟨#[]⟩, .int .i64 0, .int .i64 0]), 4, 40) := by kernel_rfl
theorem comN_step {s : List UInt8} {j : Nat} (hl : j < s.length) (h : atB s j ≠ 10) : comN (s.drop j) = 1 + comN (s.drop (j + 1)) := by
  rw [drop_at hl]
  unfold comN
  rw [List.takeWhile_cons, if_pos (by simpa using h), List.length_cons]; omega
theorem comN_stop {s : List UInt8} {j : Nat} (h : s.length ≤ j ∨ atB s j = 10) : comN (s.drop j) = 0 := by
  rcases Nat.lt_or_ge j s.length with hl | hl
  · rw [drop_at hl]
    unfold comN
    rcases h with h | h
    · omega
    · rw [List.takeWhile_cons, if_neg (by simp [h])]; rfl
  · rw [List.drop_eq_nil_of_le hl]; rfl
theorem tk_com_at {s : List UInt8} {i : Nat} (hl : i < s.length) (h : atB s i = 37) (line col : Nat) : 0 < comN (s.drop i) ∧ tk (s.drop i) line col = tk (s.drop (i + comN (s.drop i))) line (col + comN (s.drop i)) := by
  have e := drop_at hl
  rw [h] at e
  refine ⟨by rw [e]; exact comN_pos, ?_⟩
  conv => lhs; rw [e]
  rw [tk_com, ← e, List.drop_drop]
theorem tk_line_at {s : List UInt8} {i : Nat} (hl : i < s.length) (h : atB s i = 10) (line col : Nat) : tk (s.drop i) line col = tk (s.drop (i + 1)) (line + 1) 1 := by rw [drop_at hl, h, tk_line]
theorem tk_blank_at {s : List UInt8} {i : Nat} (hl : i < s.length) (h : isBlk (atB s i) = true) (line col : Nat) : tk (s.drop i) line col = tk (s.drop (i + 1)) line (col + 1) := by rw [drop_at hl, tk_blank h]
theorem tk_tok_at {s : List UInt8} {i k n : Nat} (hl : i < s.length) (h : firstT (s.drop i) = .ok k n) (line col : Nat) : tk (s.drop i) line col = (tk (s.drop (i + n)) line (col + n)).push ⟨k, (s.drop i).take n, line, col⟩ := by
  have e := drop_at hl
  rw [e] at h ⊢
  rw [tk_tok h, ← e, List.drop_drop]
theorem tk_err_at {s : List UInt8} {i x : Nat} (hl : i < s.length) (h : firstT (s.drop i) = .err x) (h1 : atB s i ≠ 10) (h2 : isBlk (atB s i) = false) (h3 : atB s i ≠ 37) (line col : Nat) : tk (s.drop i) line col = .err x := by
  rw [drop_at hl] at h ⊢
  exact tk_err h h1 h2 h3 line col
theorem t_first_ok (w : World) (s : List UInt8) (hp : 0 < s.length) (hs : s.length < 4611686018427387904) (k n : Nat) (hf : firstT s = .ok k n) : Calls Tryz.prog 12 #[strV s] w (RetV w (.tuple #[.int .i64 (k : Nat), .int .i64 (n : Nat), .nilIface])) := t_first w s hp hs _ hf
theorem t_first_err (w : World) (s : List UInt8) (hp : 0 < s.length) (hs : s.length < 4611686018427387904) (x : Nat) (hf : firstT s = .err x) : Calls Tryz.prog 12 #[strV s] w (RetV w (.tuple #[.int .i64 0, .int .i64 0, .iface 42 (.int .i64 (x : Nat))])) := t_first w s hp hs _ hf
theorem firstT_errN {r : List UInt8} {x : Nat} (h : firstT r = .err x) : 0 < x := by
  unfold firstT at h
  split at h
  · injection h with h; omega
  · split at h
    · cases h
    · split at h
      · split at h
        · injection h with h; omega
        · cases h
      · split at h
        · injection h with h; omega
        · split at h
          · injection h with h; omega
          · split at h
            · injection h with h; omega
            · cases h
theorem isBlk_3 {c : UInt8} (h : isBlk c = true) : c = 32 ∨ c = 9 ∨ c = 13 := by
  unfold isBlk at h
  simpa [or_assoc] using h
theorem t_split (w : World) (s : List UInt8) : Calls Tryz.prog 7 #[strV s] w (RetSp (fun x => errV x) w s) := by
 have hszs := size_v s
 obtain ⟨i0, hi0, hz0, hz1, hz2⟩ := info_parts info_tok
 rcases Nat.lt_or_ge 65536 s.length with hbig | hsm
 ·have hlen : ((65536 : Int) < (s.length : Int)) = True := by simp; omega
  clear hi0 hz0 hz1 hz2
  go_enter Tryz.func7, Tryz.ntmps7
  go_wp2_with fail
  refine bodyPost_ret (v := .tuple #[.slice none 0 0, .iface 42 (.int .i64 4)]) (by simp [results, Tryz.results7, go_sem, *] <;> first | rfl | exact ⟨rfl, rfl⟩) rfl ?_
  exact ⟨4, [], .big hbig rfl rfl, none, 0, 0, rfl, TkS.nil _, brefl w⟩
 have hlen : ((65536 : Int) < (s.length : Int)) = False := by simp; omega
 have hs : s.length < 4611686018427387904 := by omega
 have HI := Lib.hid (And.intro hi0 (And.intro hz0 (And.intro hz1 hz2)))
 clear hi0 hz0 hz1 hz2
 go_enter Tryz.func7, Tryz.ntmps7
 go_wp2_with fail
 go_loopw [4, 5, 6, 7] (fun ov lv sv iv wr => ∃ (done : List Tkn) (i line st : Nat), lv = .int .i64 (line : Nat) ∧ sv = .int .i64 (st : Nat) ∧ iv = .int .i64 (i : Nat) ∧ i ≤ s.length ∧ st ≤ i ∧ line ≤ i + 1 ∧ done.length ≤ i ∧ Hid (tokens s = pre done (tk (s.drop i) line (i - st + 1))) ∧ wr.ownsRow w.heap.size 38 4 ov done.length (tokCs done) ∧ Below w.heap.size w wr) (fun _ _ _ iv _ => s.length - (intOf iv).toNat)
 case atStart => exact ⟨[], 0, 1, 0, rfl, rfl, rfl, Nat.zero_le _, Nat.le_refl _, by omega, Nat.le_refl _, Lib.hid (by rw [pre_nil]; rfl), ⟨rfl, .inl ⟨rfl, rfl⟩⟩, brefl w⟩
 case round =>
  obtain ⟨done, i, line, st, rfl, rfl, rfl, hi, hst, hln, hdn, hT, hown, hbel⟩ := hrel
  have HO := Lib.hid hown
  clear hown
  rcases Nat.lt_or_ge i s.length with hl | hl
  ·have hi1 : ((i : Int) < (s.length : Int)) = True := by simp; omega
   have hlts : i < s.length := hl
   obtain ⟨c, hc⟩ : ∃ c, atB s i = c := ⟨_, rfl⟩
   have hget : ∀ h, (⟨s.toArray⟩ : ByteArray)[i]'h = c := fun h => by rw [← hc]; exact (atB_lt hl).symm
   by_cases h10 : c = 10
   ·have q10 : (((c.toNat : Nat) : Int) == 10) = true := (byte_eq c 10).trans (by simp [h10])
    have hT2 := tk_line_at hl (by rw [hc]; exact h10) line (i - st + 1)
    have h10b : c ≠ 37 := by rw [h10]; decide
    go_wp2_with fail
    go_roundw
    case rel => exact ⟨done, i + 1, line + 1, i + 1, by go_num, by go_num, by go_num, by omega, by omega, by omega, by omega, Lib.hid (by rw [hT.out, hT2]; congr 2; omega), HO.out, hbel⟩
    case measure => simp [intOf]; omega
   have q10 : (((c.toNat : Nat) : Int) == 10) = false := (byte_eq c 10).trans (by simp [h10])
   by_cases hbk : isBlk c = true
   ·have hT2 := tk_blank_at hl (by rw [hc]; exact hbk) line (i - st + 1)
    rcases isBlk_3 hbk with h3 | h3 | h3
    ·have q32 : (((c.toNat : Nat) : Int) == 32) = true := (byte_eq c 32).trans (by simp [h3])
     clear h3
     go_wp2_with fail
     go_roundw
     case rel => exact ⟨done, i + 1, line, st, rfl, rfl, by go_num, by omega, by omega, by omega, by omega, Lib.hid (by rw [hT.out, hT2]; congr 2; omega), HO.out, hbel⟩
     case measure => simp [intOf]; omega
    ·have q32 : (((c.toNat : Nat) : Int) == 32) = false := (byte_eq c 32).trans (by simp [h3])
     have q9 : (((c.toNat : Nat) : Int) == 9) = true := (byte_eq c 9).trans (by simp [h3])
     clear h3
     go_wp2_with fail
     go_roundw
     case rel => exact ⟨done, i + 1, line, st, rfl, rfl, by go_num, by omega, by omega, by omega, by omega, Lib.hid (by rw [hT.out, hT2]; congr 2; omega), HO.out, hbel⟩
     case measure => simp [intOf]; omega
    ·have q32 : (((c.toNat : Nat) : Int) == 32) = false := (byte_eq c 32).trans (by simp [h3])
     have q9 : (((c.toNat : Nat) : Int) == 9) = false := (byte_eq c 9).trans (by simp [h3])
     have q13 : (((c.toNat : Nat) : Int) == 13) = true := (byte_eq c 13).trans (by simp [h3])
     clear h3
     go_wp2_with fail
     go_roundw
     case rel => exact ⟨done, i + 1, line, st, rfl, rfl, by go_num, by omega, by omega, by omega, by omega, Lib.hid (by rw [hT.out, hT2]; congr 2; omega), HO.out, hbel⟩
     case measure => simp [intOf]; omega
   have hbk : isBlk c = false := by simpa using hbk
   have q32 : (((c.toNat : Nat) : Int) == 32) = false := (byte_eq c 32).trans (beq_eq_false_iff_ne.2 (by rintro rfl; exact absurd hbk (by decide)))
   have q9 : (((c.toNat : Nat) : Int) == 9) = false := (byte_eq c 9).trans (beq_eq_false_iff_ne.2 (by rintro rfl; exact absurd hbk (by decide)))
   have q13 : (((c.toNat : Nat) : Int) == 13) = false := (byte_eq c 13).trans (beq_eq_false_iff_ne.2 (by rintro rfl; exact absurd hbk (by decide)))
   by_cases h37 : c = 37
   ·have q37 : (((c.toNat : Nat) : Int) == 37) = true := (byte_eq c 37).trans (by simp [h37])
    obtain ⟨hcp, hT2⟩ := tk_com_at hl (by rw [hc]; exact h37) line (i - st + 1)
    go_wp2_with fail
    clear q10 q32 q9 q13 q37 hget h10 hbk h37 hc
    go_loopw [7] (fun jv w2 => ∃ (j : Nat), jv = .int .i64 (j : Nat) ∧ i ≤ j ∧ j ≤ s.length ∧ Hid (j + comN (s.drop j) = i + comN (s.drop i)) ∧ wr = w2) (fun jv _ => s.length - (intOf jv).toNat)
    case atStart => exact ⟨i, rfl, Nat.le_refl _, hi, Lib.hid rfl, by first | rfl | trivial⟩
    case round =>
     obtain ⟨j, rfl, hij, hj, hcj, hw2⟩ := hrel
     subst hw2
     rcases Nat.lt_or_ge j s.length with hjl | hjl
     ·have hlj : j < s.length := hjl
      have hj1 : ((j : Int) < (s.length : Int)) = True := by simp; omega
      obtain ⟨d, hd⟩ : ∃ d, atB s j = d := ⟨_, rfl⟩
      have hget : ∀ h, (⟨s.toArray⟩ : ByteArray)[j]'h = d := fun h => by rw [← hd]; exact (atB_lt hjl).symm
      by_cases hd10 : d = 10
      ·have e10 : (((d.toNat : Nat) : Int) == 10) = true := (byte_eq d 10).trans (by simp [hd10])
       have hst0 := comN_stop (s := s) (j := j) (.inr (by rw [hd]; exact hd10))
       have hjn : i + comN (s.drop i) = j := by have := hcj.out; omega
       clear hd hd10
       go_wp2_with fail
       go_roundw
       case rel => exact ⟨done, j, line, st, rfl, rfl, rfl, hj, by omega, by omega, by omega, Lib.hid (by rw [hT.out, hT2, hjn, show i - st + 1 + comN (s.drop i) = j - st + 1 by have := hcj.out; omega]), HO.out, hbel⟩
       case measure => simp [intOf]; omega
      ·have e10 : (((d.toNat : Nat) : Int) == 10) = false := (byte_eq d 10).trans (by simp [hd10])
       have hst9 := comN_step hjl (by rw [hd]; exact hd10)
       clear hd hd10
       go_wp2_with fail
       go_roundw
       case rel => exact ⟨j + 1, by go_num, by omega, by omega, Lib.hid (by have h9 := hcj.out; rw [hst9] at h9; omega), by first | rfl | trivial⟩
       case measure => simp [intOf]; omega
     ·have hj1 : ((j : Int) < (s.length : Int)) = False := by simp; omega
      have hst0 := comN_stop (s := s) (j := j) (.inl hjl)
      have hjn : i + comN (s.drop i) = j := by have := hcj.out; omega
      go_wp2_with fail
      go_roundw
      case rel => exact ⟨done, j, line, st, rfl, rfl, rfl, hj, by omega, by omega, by omega, Lib.hid (by rw [hT.out, hT2, hjn, show i - st + 1 + comN (s.drop i) = j - st + 1 by have := hcj.out; omega]), HO.out, hbel⟩
      case measure => simp [intOf]; omega
   have q37 : (((c.toNat : Nat) : Int) == 37) = false := (byte_eq c 37).trans (by simp [h37])
   obtain ⟨r, hr⟩ : ∃ r, s.drop i = r := ⟨_, rfl⟩
   have hrl : r.length = s.length - i := by rw [← hr, List.length_drop]
   have e2 : (⟨s.toArray⟩ : ByteArray).extract i s.length = ⟨r.toArray⟩ := by
    rw [ext_v, hr, List.take_of_length_le (by omega)]
   have hi0 : (0 : Int) ≤ (i : Int) := by omega
   have hiL : (i : Int) ≤ (s.length : Int) := by omega
   cases hf : firstT (s.drop i) with
   | err x =>
    have hT2 := tk_err_at hl hf (by rw [hc]; exact h10) (by rw [hc]; exact hbk) (by rw [hc]; exact h37) line (i - st + 1)
    have hx0 := firstT_errN hf
    have hx1 : ((x : Int) == 0) = false := by simp; omega
    go_wp2_with fail
    (with_reducible refine (t_first_err _ r (by omega) (by omega) x (hr ▸ hf)).mono ?_); rintro e w1 ⟨rfl, hb9⟩
    go_wp2_with fail
    refine bodyPost_ret (v := .tuple #[.slice none 0 0, .iface 42 (.int .i64 (x : Nat))]) (by simp [results, Tryz.results7, go_sem, *] <;> first | rfl | exact ⟨rfl, rfl⟩) rfl ?_
    refine ⟨(x : Int), [], .err x hsm (by rw [hT.out, hT2]; rfl) rfl rfl, none, 0, 0, by show _ = Ending.returned (.tuple #[_, errV (x : Int)]); rw [show errV (x : Int) = _ from if_neg (by omega)], TkS.nil _, hbel.trans (hb9.mono hbel.size)⟩
   | ok k n =>
    have hfk := firstT_ok hf
    rw [List.length_drop] at hfk
    have hT2 := tk_tok_at hl hf line (i - st + 1)
    obtain ⟨x, hx⟩ : ∃ x, (s.drop i).take n = x := ⟨_, rfl⟩
    rw [hx] at hT2
    have hwin : IntKind.i64.wrap ((i : Int) + (n : Int)) = (i : Int) + (n : Int) := IntWalk.i64_in _ ⟨by omega, by omega⟩
    have htn : ((i : Int) + (n : Int)).toNat = i + n := by omega
    have e3 : (⟨s.toArray⟩ : ByteArray).extract i (i + n) = ⟨x.toArray⟩ := by
     rw [ext_v, ← hx, show i + n - i = n by omega]
    have hn0 : (0 : Int) ≤ (i : Int) + (n : Int) := by omega
    have hn1 : (i : Int) + (n : Int) ≤ (s.length : Int) := by omega
    have hn2 : (i : Int) ≤ (i : Int) + (n : Int) := by omega
    have hwc1 : IntKind.i64.wrap ((i : Int) - (st : Int)) = (i : Int) - (st : Int) := IntWalk.i64_in _ ⟨by omega, by omega⟩
    have hwc2 : IntKind.i64.wrap ((i : Int) - (st : Int) + 1) = (i : Int) - (st : Int) + 1 := IntWalk.i64_in _ ⟨by omega, by omega⟩
    go_wp2_with fail
    (with_reducible refine (t_first_ok _ r (by omega) (by omega) k n (hr ▸ hf)).mono ?_); rintro e w1 ⟨rfl, hb9⟩
    have HO3 := Lib.hid (own_below HO.out hb9)
    have hbel3 := hbel.trans (hb9.mono hbel.size)
    clear hb9
    go_wp2_with (at_builtin; refine wpList_append_lies _ rfl _ _ _ rfl w.heap.size 38 i0 (.agg #[.int .i64 0, .string ⟨#[]⟩, .int .i64 0, .int .i64 0]) 4 40 Tryz.underlying22 HI.out.1 HI.out.2.1 HI.out.2.2.1 HI.out.2.2.2 rfl (by omega) _ done.length (tokCs done) rfl (HO3.out.alloc _) ⟨w1.heap.size, 0, none⟩ 1 1 [_, _, _, _] rfl rfl (World.news_of_block (heap_alloc_new w1 _)) (by simp [Value.oneCell']) (by omega) (by unfold maxLen; omega) (by omega) (by have := hbel3.size; simp; omega) (w1.heap.size + 1) (by simp) ?_; intro gx cap w9 hown1 hgrow hat hlt1)
    go_roundw
    case rel =>
     refine ⟨done ++ [⟨k, x, line, (i - st + 1)⟩], i + n, line, st, rfl, rfl, by go_num, by omega, by omega, by omega, by rw [List.length_append, List.length_singleton]; omega, Lib.hid ?_, ?_, (hbel3.alloc hbel3.size _).grown hgrow (by have := hbel3.size; simp; omega) (own_base HO3.out)⟩
     ·rw [hT.out, hT2, pre_push]; congr 2; omega
     ·rw [tokCs_snoc, List.length_append, List.length_singleton]
      have e : ([.int .i64 (k : Nat), strV x, .int .i64 (line : Nat), .int .i64 ((i : Int) - (st : Int) + 1)] : List Value) = tokC ⟨k, x, line, (i - st + 1)⟩ := by unfold tokC; simp; try omega
      rw [← e]; exact hown1
    case measure => simp [intOf]; omega
  ·have hi1 : ((i : Int) < (s.length : Int)) = False := by simp; omega
   obtain rfl : i = s.length := by omega
   obtain ⟨A, cc, hv, hS⟩ := TkS.of_own HO.out
   subst hv
   go_wp2_with fail
   refine bodyPost_ret (v := .tuple #[.slice A done.length cc, .nilIface]) (by simp [results, Tryz.results7, go_sem, *] <;> first | rfl | exact ⟨rfl, rfl⟩) rfl ?_
   exact ⟨0, done, .ok hsm (by rw [hT.out, List.drop_length, tk_nil]; simp [pre]) rfl, A, done.length, cc, rfl, hS, hbel⟩
end Go.Proofs.YtjanfdkbficmbaaGreatDoor

/- Walks: tokens: Same, alike. -/
namespace Go.Proofs.YtjanfdkbficmbaaGreatDoor
open Go Go.RowKit Bn
attribute [local go_sem ↓] Go.wp_at_zero Go.wp_at_succ
theorem tokCs_at {l : List Tkn} {i : Nat} (h : i < l.length) : (tokCs l)[i * 4]? = some (.int .i64 (l[i].kind : Nat)) ∧ (tokCs l)[i * 4 + 1]? = some (strV l[i].text) ∧ (tokCs l)[i * 4 + 2]? = some (.int .i64 (l[i].line : Nat)) ∧ (tokCs l)[i * 4 + 3]? = some (.int .i64 (l[i].col : Nat)) := by
  induction l generalizing i with
  | nil => simp at h
  | cons t l ih =>
    have e : tokCs (t :: l) = [.int .i64 (t.kind : Nat), strV t.text, .int .i64 (t.line : Nat), .int .i64 (t.col : Nat)] ++ tokCs l := rfl
    rw [e]
    cases i with
    | zero => simp
    | succ i =>
      have h1 := ih (i := i) (by simpa using h)
      have s : (i + 1) * 4 = i * 4 + 4 := by omega
      rw [s]
      simp only [List.getElem_cons_succ]
      refine ⟨?_, ?_, ?_, ?_⟩
      · rw [List.getElem?_append_right (by simp)]; exact h1.1
      · rw [List.getElem?_append_right (by simp)]; exact h1.2.1
      · rw [List.getElem?_append_right (by simp)]; exact h1.2.2.1
      · rw [List.getElem?_append_right (by simp)]; exact h1.2.2.2
theorem TkS.cells {w : World} {A : Option Addr} {n c : Nat} {l : List Tkn} (h : TkS w A n c l) {i : Nat} (hi : i < n) : ∃ g t, A = some ⟨g, 0, none⟩ ∧ n ≤ c ∧ l[i]? = some t ∧ w.cell? ⟨g, i * 4, none⟩ = some (.int .i64 (t.kind : Nat)) ∧ w.cell? ⟨g, i * 4 + 1, none⟩ = some (strV t.text) ∧ w.cell? ⟨g, i * 4 + 2, none⟩ = some (.int .i64 (t.line : Nat)) ∧ w.cell? ⟨g, i * 4 + 3, none⟩ = some (.int .i64 (t.col : Nat)) := by
  have hl := h.1
  rcases h.2 with ⟨h0, _⟩ | ⟨g, e, hc, h2⟩
  · omega
  · have h3 := tokCs_at (l := l) (i := i) (by omega)
    exact ⟨g, _, e, hc, List.getElem?_eq_getElem (by omega), h2 _ _ h3.1, h2 _ _ h3.2.1, h2 _ _ h3.2.2.1, h2 _ _ h3.2.2.2⟩
end Go.Proofs.YtjanfdkbficmbaaGreatDoor

/- Walks: tokens: names, joined texts. -/
namespace Go.Proofs.YtjanfdkbficmbaaGreatDoor
open Go Go.RowKit Bn
attribute [local go_sem ↓] Go.wp_at_zero Go.wp_at_succ
def joinT : List (List UInt8) → List UInt8
  | [] => []
  | [x] => x
  | x :: y :: r => x ++ 32 :: joinT (y :: r)
theorem joinT_eq (xs : List (List UInt8)) : Lib.join xs [32] = joinT xs := by
  induction xs with
  | nil => rfl
  | cons x r ih =>
    cases r with
    | nil => rw [Lib.join_one]; rfl
    | cons y r =>
      rw [joinT, ← ih]
      rw [Lib.join_cons, Lib.join_cons]
      simp [Lib.joinTail]
theorem joinT_snoc (xs : List (List UInt8)) (x : List UInt8) (h : xs ≠ []) : joinT (xs ++ [x]) = joinT xs ++ 32 :: x := by
  induction xs with
  | nil => exact absurd rfl h
  | cons y r ih =>
    cases r with
    | nil => rfl
    | cons z r =>
      show y ++ 32 :: joinT (z :: r ++ [x]) = _
      rw [ih (by simp)]
      show _ = (y ++ 32 :: joinT (z :: r)) ++ 32 :: x
      simp
theorem joinT_take : ∀ (xs : List (List UInt8)) (j : Nat), (joinT (xs.take j)).length ≤ (joinT xs).length
  | [], j => by simp [joinT]
  | _ :: _, 0 => by simp [joinT]
  | [x], j + 1 => by simp [joinT]
  | x :: y :: r, 1 => by simp [joinT]
  | x :: y :: r, j + 2 => by
    have h := joinT_take (y :: r) (j + 1)
    show (x ++ 32 :: joinT (y :: r.take j)).length ≤ (x ++ 32 :: joinT (y :: r)).length
    have e : (y :: r).take (j + 1) = y :: r.take j := rfl
    rw [e] at h
    simp only [List.length_append, List.length_cons]
    omega
theorem app_v (a b : List UInt8) : (⟨a.toArray⟩ : ByteArray) ++ (⟨b.toArray⟩ : ByteArray) = ⟨(a ++ b).toArray⟩ := by
  apply ByteArray.ext
  simp
end Go.Proofs.YtjanfdkbficmbaaGreatDoor

/- Walks: tokens: Join of the program. -/
namespace Go.Proofs.YtjanfdkbficmbaaGreatDoor
open Go Go.RowKit Bn
attribute [local go_sem ↓] Go.wp_at_zero Go.wp_at_succ
def strCs (l : List (List UInt8)) : List Value := l.map strV
theorem news2 (w : World) (o : Obj) (cs : Array Value) (t : TypeId) : ∀ j u, cs.toList[j]? = some u → ((w.alloc o).alloc (.cells cs t)).cell? ((⟨w.heap.size + 1, 0, none⟩ : Addr).add j) = some u := by
  have := World.news_of_block (heap_alloc_new (w.alloc o) (.cells cs t))
  simpa using this
theorem toL_v (l : List UInt8) : (⟨l.toArray⟩ : ByteArray).data.toList = l := by simp
theorem join18_v (w : World) (g cap n : Nat) (L : List (List UInt8)) (hL : L.length = n) (hcells : ∀ (j : Nat) x, L[j]? = some x → w.cell? ⟨g, j, none⟩ = some (strV x)) (hg : g < w.heap.size) (hN : n ≤ 140737488355328) (hcap : n ≤ cap) (hlen : (joinT L).length ≤ 140737488355328) :
    Calls Tryz.prog 11 #[.slice (some ⟨g, 0, none⟩) n cap, .string ⟨#[32]⟩] w (RetV w (strV (joinT L))) := by
  subst hL
  have e : (L.map fun x => (⟨x.toArray⟩ : ByteArray)).map (·.data.toList) = L := by
    rw [List.map_map]
    conv => rhs; rw [← List.map_id L]
    exact List.map_congr_left fun x _ => toL_v x
  have h := Tryz.strings_Join g 0 cap (L.map fun x => ⟨x.toArray⟩) ⟨#[32]⟩ w (fun j x hx => by
    rw [List.getElem?_map, Option.map_eq_some_iff] at hx
    obtain ⟨y, hy, rfl⟩ := hx
    rw [Nat.zero_add]
    exact hcells j y hy) hg (by rw [List.length_map]; exact hN) (by rw [List.length_map]; exact hcap) (by rw [e]; show (Lib.join L [32]).length ≤ _; rw [joinT_eq]; exact hlen)
  rw [List.length_map, e] at h
  refine h.mono fun e' w' ⟨he, hb⟩ => ⟨?_, hb⟩
  rw [he]
  show Ending.returned (.string ⟨(Lib.join L [32]).toArray⟩) = _
  rw [joinT_eq]
end Go.Proofs.YtjanfdkbficmbaaGreatDoor

/- Walks: fraction.Parse. -/
namespace Go.Proofs.YtjanfdkbficmbaaGreatDoor
open Go Go.RowKit Bn
attribute [local go_sem ↓] Go.wp_at_zero Go.wp_at_succ
def Mx (w : World) : Prop := ∃ m, w.cell? ⟨0, 0, none⟩ = some (.int .i64 m)
theorem Mx.belw {w w' : World} (h : Mx w) (hb : Below w.heap.size w w') : Mx w' := by
  obtain ⟨m, hm⟩ := h
  exact ⟨m, (hb.cell (p := ⟨0, 0, none⟩) (World.block_lt_of_cell? w _ hm)).trans hm⟩
theorem cut_v (w : World) (s : List UInt8) (c : UInt8) (a b : List UInt8) (f : Bool) (hm : Mx w) (hl : s.length ≤ 65536) (hc : Lib.cut s [c] = (a, b, f)) : Calls Tryz.prog 15 #[strV s, .string ⟨#[c]⟩] w (RetV w (.tuple #[strV a, strV b, .bool f])) := by
  obtain ⟨m, hm⟩ := hm
  refine (Tryz.strings_Cut ⟨s.toArray⟩ ⟨#[c]⟩ m w (by show s.length < _; omega) hm).mono fun e w' ⟨he, n, hw⟩ => ⟨?_, hw ▸ below_drewN (brefl _) n⟩
  rw [he]
  show Ending.returned (.tuple #[strV (Lib.cut s [c]).1, strV (Lib.cut s [c]).2.1, .bool (Lib.cut s [c]).2.2]) = _
  rw [hc]
theorem errV_2 : errV 2 = .iface 42 (.int .i64 2) := if_neg (by decide)
theorem errV_4 : errV 4 = .iface 42 (.int .i64 4) := if_neg (by decide)
end Go.Proofs.YtjanfdkbficmbaaGreatDoor

/- Values of numbers: plain. -/
namespace Go.Proofs.YtjanfdkbficmbaaGreatDoor
open Go Go.RowKit Bn
def isD (D : List UInt8) : Prop := D ≠ [] ∧ D.all isDg = true
def sg (m : Bool) (D : List UInt8) : List UInt8 := if m then 45 :: D else D
def sgI (m : Bool) (n : Int) : Int := if m then -n else n
inductive NumForm (s : List UInt8) : Prop
  | whole (m : Bool) (D : List UInt8) (hD : isD D) (hs : s = sg m D)
  | quo (m : Bool) (D E : List UInt8) (hD : isD D) (hE : isD E) (hs : s = sg m (D ++ 47 :: E))
  | dot (m : Bool) (D E : List UInt8) (hD : isD D) (hE : isD E) (hs : s = sg m (D ++ 46 :: E))
theorem isD_head {D : List UInt8} (h : isD D) : ∃ c t, D = c :: t ∧ isDg c = true := by
  obtain ⟨h1, h2⟩ := h
  cases D with
  | nil => exact absurd rfl h1
  | cons c t => rw [List.all_cons, Bool.and_eq_true] at h2; exact ⟨c, t, rfl, h2.1⟩
theorem isD_no {D : List UInt8} (h : isD D) {c : UInt8} (hc : isDg c = false) : c ∉ D := fun hm => by
  have := List.all_eq_true.1 h.2 c hm
  rw [hc] at this; cases this
theorem headM_sg {m : Bool} {D r : List UInt8} (h : isD D) : headM (sg m (D ++ r)) = m ∧ tailS (sg m (D ++ r)) = D ++ r := by
  obtain ⟨c, t, rfl, hc⟩ := isD_head h
  have h45 : c ≠ 45 := by rintro rfl; exact absurd hc (by decide)
  cases m
  · show headM (c :: (t ++ r)) = false ∧ tailS (c :: (t ++ r)) = _
    refine ⟨?_, ?_⟩
    · unfold headM; split
      · rename_i h1; injection h1 with h2; exact absurd h2 h45
      · rfl
    · unfold tailS; split
      · rename_i h1; injection h1 with h2; exact absurd h2 h45
      · rfl
  · exact ⟨rfl, rfl⟩
def plainT (D : List UInt8) : List UInt8 := if D.dropWhile (· == 48) = [] then [48] else D.dropWhile (· == 48)
theorem decVal_zero (t : List UInt8) : decVal (48 :: t) = decVal t := by
  have := decVal_app [48] t
  rw [show decVal [48] = 0 from rfl, Nat.zero_mul, Nat.zero_add] at this
  exact this
theorem plain_ok : ∀ {D : List UInt8}, D.all isDg = true → okZ (plainT D) = true ∧ valZ (plainT D) = (decVal D : Int) ∧ (plainT D).length ≤ max 1 D.length := by
  intro D
  induction D with
  | nil => intro _; exact ⟨by decide, by decide, by decide⟩
  | cons c t ih =>
    intro h
    rw [List.all_cons, Bool.and_eq_true] at h
    by_cases hc : c = 48
    · subst hc
      have e : plainT (48 :: t) = plainT t := by unfold plainT; simp
      rw [e, decVal_zero]
      obtain ⟨h1, h2, h3⟩ := ih h.2
      refine ⟨h1, h2, ?_⟩
      rw [List.length_cons]; omega
    · have e : plainT (c :: t) = c :: t := by unfold plainT; simp [hc]
      have h45 : c ≠ 45 := by rintro rfl; exact absurd h.1 (by decide)
      have eh : headM (c :: t) = false := by
        unfold headM; split
        · rename_i h1; injection h1 with h2; exact absurd h2 h45
        · rfl
      have et : tailS (c :: t) = c :: t := by
        unfold tailS; split
        · rename_i h1; injection h1 with h2; exact absurd h2 h45
        · rfl
      rw [e]
      refine ⟨?_, ?_, by omega⟩
      · unfold okZ
        rw [eh, et]
        simp [h.1, hc]
        simpa using h.2
      · unfold valZ
        rw [eh, et]; rfl
inductive ValOut (s : List UInt8) (x : Int) (q : Rat) : Prop
  | large (h : 60 < s.length) (hx : x = 4) (hq : q = 0)
  | bad (h : s.length ≤ 60) (hb : s.length = 0 ∨ numN s ≠ s.length) (hx : x = 2) (hq : q = 0)
  | whole (m : Bool) (D : List UInt8) (h : s.length ≤ 60) (hn : numN s = s.length) (hD : isD D) (hs : s = sg m D) (hx : x = 0) (hq : q = ((sgI m (decVal D) : Int) : Rat))
  | quo0 (m : Bool) (D E : List UInt8) (h : s.length ≤ 60) (hn : numN s = s.length) (hD : isD D) (hE : isD E) (hs : s = sg m (D ++ 47 :: E)) (h0 : decVal E = 0) (hx : x = 8) (hq : q = 0)
  | quo (m : Bool) (D E : List UInt8) (h : s.length ≤ 60) (hn : numN s = s.length) (hD : isD D) (hE : isD E) (hs : s = sg m (D ++ 47 :: E)) (h0 : decVal E ≠ 0) (hx : x = 0) (hq : q = Rat.divInt (sgI m (decVal D)) (decVal E))
  | dot (m : Bool) (D E : List UInt8) (h : s.length ≤ 60) (hn : numN s = s.length) (hD : isD D) (hE : isD E) (hs : s = sg m (D ++ 46 :: E)) (hx : x = 0) (hq : q = Rat.divInt (sgI m (decVal (D ++ E))) ((10 ^ E.length : Nat) : Int))
theorem ten_pow_val (n : Nat) : plainT (49 :: List.replicate n 48) = 49 :: List.replicate n 48 ∧ decVal (49 :: List.replicate n 48) = 10 ^ n ∧ (49 :: List.replicate n 48).all isDg = true := by
  refine ⟨by unfold plainT; simp, ?_, ?_⟩
  · induction n with
    | zero => rfl
    | succ n ih =>
      rw [List.replicate_succ', ← List.cons_append, decVal_snoc, ih, show dval 48 = 0 from rfl, Nat.pow_succ]; omega
  · rw [List.all_cons, Bool.and_eq_true]
    refine ⟨by decide, ?_⟩
    rw [List.all_eq_true]
    intro c hc
    rw [List.eq_of_mem_replicate hc]; decide
theorem dec_sz60 {D : List UInt8} (h : D.all isDg = true) (hl : D.length ≤ 60) : decVal D < 4294967296 ^ 60 := by
  have h1 := decVal_lt h
  have h2 : (10 : Nat) ^ D.length ≤ 10 ^ 60 := Nat.pow_le_pow_right (by decide) hl
  have h3 : (10 : Nat) ^ 60 < 4294967296 ^ 60 := by decide
  omega
theorem sgI_abs (m : Bool) (n : Nat) : (sgI m (n : Int)).natAbs = n := by cases m <;> simp [sgI]
end Go.Proofs.YtjanfdkbficmbaaGreatDoor

/- Walks: tokens: the value of a number. -/
namespace Go.Proofs.YtjanfdkbficmbaaGreatDoor
open Go Go.RowKit Bn
attribute [local go_sem ↓] Go.wp_at_zero Go.wp_at_succ
theorem trimL_v (w : World) (s : List UInt8) : Calls Tryz.prog 43 #[strV s, .string ⟨#[48]⟩] w (RetV w (strV (s.dropWhile (· == 48)))) := by
  refine (Tryz.strings_TrimLeft_one ⟨s.toArray⟩ 48 (by decide) w).mono fun e w' ⟨he, hw⟩ => ⟨?_, hw ▸ brefl _⟩
  rw [he]
  congr 2
theorem cutp_v (w : World) (s : List UInt8) (m : Bool) (b : List UInt8) (hm : headM s = m) (hb : tailS s = b) : Calls Tryz.prog 14 #[strV s, .string ⟨#[45]⟩] w (RetV w (.tuple #[strV b, .bool m])) := by
  refine (Tryz.strings_CutPrefix ⟨s.toArray⟩ ⟨#[45]⟩ w).mono fun e w' ⟨he, hw⟩ => ⟨?_, hw ▸ brefl _⟩
  rw [he]
  have e1 : Lib.hasPrefix s [45] = m := (hasPrefix_m s).trans hm
  have e2 : Lib.trimPrefix s [45] = b := (trimPrefix_m s).trans hb
  show Ending.returned (.tuple #[.string ⟨(Lib.trimPrefix s [45]).toArray⟩, .bool (Lib.hasPrefix s [45])]) = _
  rw [e1, e2]
theorem rep_v (w : World) (n : Nat) (hn : n ≤ 1000) (Z : List UInt8) (hZ : List.replicate n 48 = Z) : Calls Tryz.prog 16 #[.string ⟨#[48]⟩, .int .i64 (n : Nat)] w (RetV w (strV Z)) := by
  refine (Tryz.strings_Repeat ⟨#[48]⟩ n w (by omega) (by show 1 * n ≤ _; omega)).mono fun e w' ⟨he, hb⟩ => ⟨?_, hb⟩
  subst hZ
  rw [he]
  have e9 : ∀ k, Lib.repeatL [48] k = List.replicate k 48 := fun k => by
    induction k with
    | zero => rfl
    | succ k ih => rw [Lib.repeatL, ih, List.replicate_succ]; rfl
  exact congrArg (fun x : List UInt8 => Ending.returned (strV x)) (e9 n)
theorem parse_d (w : World) (T : List UInt8) (z : Int) (ho : okZ T = true) (hz : valZ T = z) (hl : T.length ≤ 130) : Calls Tryz.prog 17 #[strV T] w (RetIe w .nilIface z 130) := by
  subst hz
  exact (i_parse_ok w T (by omega) ho).mono fun e w' ⟨b, A, n, c, h1, h2, h3⟩ => ⟨b, A, n, c, h1, h2.mono hl, h3⟩
theorem t_plain (w : World) (s t : List UInt8) (ht : plainT s = t) : Calls Tryz.prog 18 #[strV s] w (RetV w (strV t)) := by
 obtain ⟨u, hu⟩ : ∃ u, s.dropWhile (· == 48) = u := ⟨_, rfl⟩
 unfold plainT at ht
 rw [hu] at ht
 have HT := trimL_v w s
 rw [hu] at HT
 have HT := Lib.hid HT
 by_cases h0 : u = []
 ·subst h0
  obtain rfl : [48] = t := ht
  clear hu
  go_enter Tryz.func18, Tryz.ntmps18
  go_wp2_with fail
  (with_reducible refine HT.out.mono ?_); rintro e w1 ⟨rfl, hb1⟩
  go_wp2_with fail
  go_ret
  exact ⟨rfl, hb1⟩
 ·obtain rfl : u = t := by rw [if_neg h0] at ht; exact ht
  obtain ⟨y, ys, hyy⟩ := List.exists_cons_of_ne_nil h0
  have hBe : ((⟨u.toArray⟩ : ByteArray) == ⟨#[]⟩) = false := by rw [hyy]; rfl
  have hBl : (u == []) = false := by rw [hyy]; rfl
  have hBn : (u = []) = False := eq_false h0
  clear hu hyy h0
  go_enter Tryz.func18, Tryz.ntmps18
  go_wp2_with fail
  (with_reducible refine HT.out.mono ?_); rintro e w1 ⟨rfl, hb1⟩
  go_wp2_with fail
  go_ret
  exact ⟨rfl, hb1⟩
theorem t_value_large (w : World) (s : List UInt8) (h : 60 < s.length) : Calls Tryz.prog 8 #[strV s] w (RetFe w (.iface 42 (.int .i64 4)) 0 1) := by
 have hszs := size_v s
 have hlen : ((60 : Int) < (s.length : Int)) = True := eq_true (by omega)
 go_enter Tryz.func8, Tryz.ntmps8
 go_wp2_with fail
 refine bodyPost_ret (v := .tuple #[.agg #[.bool false, .slice none 0 0, .slice none 0 0], .iface 42 (.int .i64 4)]) (by simp [results, Tryz.results8, go_sem, *] <;> first | rfl | exact ⟨rfl, rfl⟩) rfl ?_
 exact ⟨_, _, _, _, _, _, _, rfl, QV.zero _ _, ((brefl w).alloc (by first | omega | (simp <;> omega)) (.cells #[.bool false, .slice none 0 0, .slice none 0 0] 32))⟩
theorem t_value_bad (w : World) (s : List UInt8) (h : s.length ≤ 60) (hb : s.length = 0 ∨ numN s ≠ s.length) : Calls Tryz.prog 8 #[strV s] w (RetFe w (.iface 42 (.int .i64 2)) 0 1) := by
 have hszs := size_v s
 have hlen : ((60 : Int) < (s.length : Int)) = False := eq_false (by omega)
 obtain ⟨n, hn⟩ : ∃ n, numN s = n := ⟨_, rfl⟩
 have hnl : n ≤ s.length := by rw [← hn]; exact numN_le s
 rw [hn] at hb
 by_cases h0 : n = 0
 ·subst h0
  clear hb
  go_enter Tryz.func8, Tryz.ntmps8
  go_wp2_with fail
  (with_reducible refine (t_number _ (s) (by omega) 0 hn).mono ?_); rintro e w1 ⟨rfl, hb1⟩
  have q1 := ((Below.refl _ _).alloc (Nat.le_refl _) _).trans (hb1.mono (by simp))
  have x1a : Blk w1 w.heap.size 32 #[.bool false, .slice none 0 0, .slice none 0 0] := (blkAt _ _ _ (by simp)).below hb1 (by simp)
  have bw1 := (brefl w).trans (q1.mono (brefl w).size)
  have lw1 : w.heap.size + 1 ≤ w1.heap.size := by have := hb1.size; simp at this; omega
  clear q1
  obtain ⟨cx1aa, cx1ab, cx1ac⟩ := x1a.c3
  obtain ⟨fx1aa, fx1ab, fx1ac⟩ := x1a.f3
  obtain ⟨lx1aa, lx1ab, lx1ac, lx1ad⟩ := lts0 x1a.lt
  go_wp2_with fail
  refine bodyPost_ret (v := .tuple #[.agg #[.bool false, .slice none 0 0, .slice none 0 0], .iface 42 (.int .i64 2)]) (by simp [results, Tryz.results8, go_sem, *] <;> first | rfl | exact ⟨rfl, rfl⟩) rfl ?_
  exact ⟨_, _, _, _, _, _, _, rfl, QV.zero _ _, (((bw1.sc w.heap.size 0 (by omega) (.bool false)).sc w.heap.size 1 (by omega) (.slice none 0 0)).sc w.heap.size 2 (by omega) (.slice none 0 0))⟩
 ·have e0 : ((n : Int) == 0) = false := by simp; omega
  have e00 : ((n : Int) = 0) = False := eq_false (by omega)
  have e1 : ((n : Int) == (s.length : Int)) = false := by simp; omega
  clear hb h0
  go_enter Tryz.func8, Tryz.ntmps8
  go_wp2_with fail
  (with_reducible refine (t_number _ (s) (by omega) n hn).mono ?_); rintro e w1 ⟨rfl, hb1⟩
  have q1 := ((Below.refl _ _).alloc (Nat.le_refl _) _).trans (hb1.mono (by simp))
  have x1a : Blk w1 w.heap.size 32 #[.bool false, .slice none 0 0, .slice none 0 0] := (blkAt _ _ _ (by simp)).below hb1 (by simp)
  have bw1 := (brefl w).trans (q1.mono (brefl w).size)
  have lw1 : w.heap.size + 1 ≤ w1.heap.size := by have := hb1.size; simp at this; omega
  clear q1
  obtain ⟨cx1aa, cx1ab, cx1ac⟩ := x1a.c3
  obtain ⟨fx1aa, fx1ab, fx1ac⟩ := x1a.f3
  obtain ⟨lx1aa, lx1ab, lx1ac, lx1ad⟩ := lts0 x1a.lt
  go_wp2_with fail
  refine bodyPost_ret (v := .tuple #[.agg #[.bool false, .slice none 0 0, .slice none 0 0], .iface 42 (.int .i64 2)]) (by simp [results, Tryz.results8, go_sem, *] <;> first | rfl | exact ⟨rfl, rfl⟩) rfl ?_
  exact ⟨_, _, _, _, _, _, _, rfl, QV.zero _ _, (((bw1.sc w.heap.size 0 (by omega) (.bool false)).sc w.heap.size 1 (by omega) (.slice none 0 0)).sc w.heap.size 2 (by omega) (.slice none 0 0))⟩
theorem t_value_whole (w : World) (s : List UInt8) (m : Bool) (D : List UInt8) (hmx : Mx w) (h : s.length ≤ 60) (hn : numN s = s.length) (hD : isD D) (hs : s = sg m D) : Calls Tryz.prog 8 #[strV s] w (RetFe w .nilIface ((sgI m (decVal D) : Int) : Rat) 130) := by
 have hszs := size_v s
 have hlen : ((60 : Int) < (s.length : Int)) = False := eq_false (by omega)
 have hhm := headM_sg (m := m) (r := []) hD
 have h1l : D.length + 0 ≤ s.length := by rw [hs]; cases m <;> simp [sg] <;> omega
 have h2l : 0 < D.length := List.length_pos_iff.2 hD.1
 have hBS : D.length ≤ 60 := by first | omega | (simp; omega)
 rw [List.append_nil] at hhm
 rw [← hs] at hhm
 have HH := Lib.hid hhm
 have HC1 := Lib.hid (cut_no (isD_no hD (c := 47) (by decide)))
 have HC2 := Lib.hid (cut_no (isD_no hD (c := 46) (by decide)))
 have hNd : D.all isDg = true := hD.2
 obtain ⟨TN, hTN⟩ : ∃ TN, plainT D = TN := ⟨_, rfl⟩
 obtain ⟨hN1, hN2, hN3⟩ := plain_ok hNd
 rw [hTN] at hN1 hN2 hN3
 obtain ⟨zn, hzn⟩ : ∃ zn : Nat, decVal D = zn := ⟨_, rfl⟩
 rw [hzn] at hN2
 have hNl : TN.length ≤ 130 := by omega
 have HTN := Lib.hid hTN
 have HN := Lib.hid (And.intro hN1 (And.intro hN2 hNl))
 obtain ⟨TD, hTD⟩ : ∃ TD, plainT [49] = TD := ⟨_, rfl⟩
 have hM1 : okZ TD = true := by rw [← hTD]; decide
 have hM2 : valZ TD = ((1 : Nat) : Int) := by rw [← hTD]; decide
 have hMl : TD.length ≤ 130 := by rw [← hTD]; decide
 obtain ⟨zd, hzd⟩ : ∃ zd : Nat, (1 : Nat) = zd := ⟨_, rfl⟩
 rw [hzd] at hM2
 have hDz : zd < 4294967296 ^ 60 := by rw [← hzd]; decide
 have HTD := Lib.hid hTD
 have HD := Lib.hid (And.intro hM1 (And.intro hM2 hMl))
 have hNz : zn < 4294967296 ^ 60 := by rw [← hzn]; exact dec_sz60 hNd (by omega)
 rw [hzn]
 have hzd0 : (zd : Int) ≠ 0 := by omega
 obtain ⟨v, hv⟩ : ∃ v : Rat, ((sgI m (zn : Nat) : Int) : Rat) = v := ⟨_, rfl⟩
 rw [hv]
 have HV : Hid (Rat.divInt (sgI m (zn : Nat)) (zd : Nat) = v) := Lib.hid (by rw [← hv, ← hzd]; exact int_q _)
 have HSZ : Hid (Sz v 130) := Lib.hid (by rw [← HV.out]; exact Sz_divInt (by rw [sgI_abs]; exact Nat.lt_trans hNz (Nat.pow_lt_pow_right (by decide) (by decide))) (by rw [Int.natAbs_natCast]; exact Nat.lt_trans hDz (Nat.pow_lt_pow_right (by decide) (by decide))) (by decide))
 have HZ0 := Lib.hid hzd0
 have hn0 : ((s.length : Int) == 0) = false := beq_eq_false_iff_ne.2 (by omega)
 have hn00 : ((s.length : Int) = 0) = False := eq_false (by omega)
 have hsl : s.length < 4611686018427387904 := by omega
 have HBS := Lib.hid hBS
 clear hs hhm hNd hTN hN1 hN2 hN3 hNl hTD hM1 hM2 hMl hNz hDz hzd0 hv hzn hzd hBS
 have HmD := Lib.hid hD
 clear hD
 cases m
 ·have HV2 : Hid (Rat.divInt ((zn : Int)) (zd : Int) = v) := Lib.hid HV.out
  clear HV
  go_enter Tryz.func8, Tryz.ntmps8
  go_wp2_with fail
  (with_reducible refine (t_number _ (s) hsl s.length hn).mono ?_); rintro e w1 ⟨rfl, hb1⟩
  have q1 := ((Below.refl _ _).alloc (Nat.le_refl _) _).trans (hb1.mono (by simp))
  have x1a : Blk w1 w.heap.size 32 #[.bool false, .slice none 0 0, .slice none 0 0] := (blkAt _ _ _ (by simp)).below hb1 (by simp)
  have bw1 := (brefl w).trans (q1.mono (brefl w).size)
  have lw1 : w.heap.size + 1 ≤ w1.heap.size := by have := hb1.size; simp at this; omega
  clear q1
  go_wp2_with fail
  (with_reducible refine (cutp_v _ (s) false D HH.out.1 HH.out.2).mono ?_); rintro e w2 ⟨rfl, q2⟩
  replace x1a := x1a.b q2
  have bw2 := bw1.trans (q2.mono bw1.size)
  have lw2 := q2.size
  clear q2 bw1
  go_wp2_with fail
  (with_reducible refine (cut_v _ (D) 47 D [] false (hmx.belw bw2) (by have := HBS.out; omega) HC1.out).mono ?_); rintro e w3 ⟨rfl, q3⟩
  replace x1a := x1a.b q3
  have bw3 := bw2.trans (q3.mono bw2.size)
  have lw3 := q3.size
  clear q3 bw2
  go_wp2_with fail
  (with_reducible refine (cut_v _ (D) 46 D [] false (hmx.belw bw3) (by have := HBS.out; omega) HC2.out).mono ?_); rintro e w4 ⟨rfl, q4⟩
  replace x1a := x1a.b q4
  have bw4 := bw3.trans (q4.mono bw3.size)
  have lw4 := q4.size
  clear q4 bw3
  go_wp2_with fail
  (with_reducible refine (t_plain _ (D) TN HTN.out).mono ?_); rintro e w5 ⟨rfl, q5⟩
  replace x1a := x1a.b q5
  have bw5 := bw4.trans (q5.mono bw4.size)
  have lw5 := q5.size
  clear q5 bw4
  go_wp2_with fail
  (with_reducible refine (parse_d _ (TN) (zn : Nat) HN.out.1 HN.out.2.1 HN.out.2.2).mono ?_); rintro e w6 ⟨b6, A6, n6, c6, rfl, h6, q6⟩
  replace x1a := x1a.b q6
  have bw6 := bw5.trans (q6.mono bw5.size)
  have lw6 := q6.size
  clear q6 bw5
  go_wp2_with fail
  (with_reducible refine (t_plain _ ([49]) TD HTD.out).mono ?_); rintro e w7 ⟨rfl, hb7⟩
  have q7 := ((Below.refl _ _).alloc (Nat.le_refl _) _).trans (hb7.mono (by simp))
  replace h6 := h6.belw q7
  replace x1a := x1a.b q7
  have x7a : Blk w7 w6.heap.size 52 #[.bool b6, .slice A6 n6 c6] := (blkAt _ _ _ (by simp)).below hb7 (by simp)
  have bw7 := bw6.trans (q7.mono bw6.size)
  have lw7 : w6.heap.size + 1 ≤ w7.heap.size := by have := hb7.size; simp at this; omega
  clear q7 bw6
  go_wp2_with fail
  (with_reducible refine (parse_d _ (TD) (zd : Nat) HD.out.1 HD.out.2.1 HD.out.2.2).mono ?_); rintro e w8 ⟨b8, A8, n8, c8, rfl, h8, q8⟩
  replace h6 := h6.belw q8
  replace x1a := x1a.b q8
  replace x7a := x7a.b q8
  have bw8 := bw7.trans (q8.mono bw7.size)
  have lw8 := q8.size
  clear q8 bw7
  obtain ⟨cx7aa, cx7ab⟩ := x7a.c2
  obtain ⟨lx7aa, lx7ab, lx7ac, lx7ad⟩ := lts0 x7a.lt
  go_wp2_with fail
  (with_reducible refine (f_from _ b6 A6 n6 c6 (((zn : Nat) : Int)) (130) ?_ b8 A8 n8 c8 (((zd : Nat) : Int)) (130) ?_ v 130 HZ0.out HV2.out HSZ.out (by decide)).mono ?_); (exact (h6.belw ((Below.refl _ _).alloc (Nat.le_refl _) _)).iz); (exact (h8.belw ((Below.refl _ _).alloc (Nat.le_refl _) _)).iz); rintro e w9 ⟨b9, A9, n9, c9, A'9, n'9, c'9, rfl, h9, hb9⟩
  clear cx7aa cx7ab lx7aa lx7ab lx7ac lx7ad
  have q9 := ((Below.refl _ _).alloc (Nat.le_refl _) _).trans (hb9.mono (by simp))
  replace h6 := h6.belw q9
  replace h8 := h8.belw q9
  replace x1a := x1a.b q9
  replace x7a := x7a.b q9
  have x9a : Blk w9 w8.heap.size 52 #[.bool b8, .slice A8 n8 c8] := (blkAt _ _ _ (by simp)).below hb9 (by simp)
  have bw9 := bw8.trans (q9.mono bw8.size)
  have lw9 : w8.heap.size + 1 ≤ w9.heap.size := by have := hb9.size; simp at this; omega
  clear q9 bw8
  obtain ⟨cx1aa, cx1ab, cx1ac⟩ := x1a.c3
  obtain ⟨fx1aa, fx1ab, fx1ac⟩ := x1a.f3
  obtain ⟨lx1aa, lx1ab, lx1ac, lx1ad⟩ := lts0 x1a.lt
  go_wp2_with fail
  refine bodyPost_ret (v := .tuple #[.agg #[.bool b9, .slice A9 n9 c9, .slice A'9 n'9 c'9], .nilIface]) (by simp [results, Tryz.results8, go_sem, *] <;> first | rfl | exact ⟨rfl, rfl⟩) rfl ?_
  exact ⟨_, _, _, _, _, _, _, rfl, ((h9).keep ((((Kp.refl w9).sb w.heap.size 0 x1a.box (by decide) (.bool b9)).sb w.heap.size 1 (x1a.box.set ⟨w.heap.size, 0, none⟩ (.bool b9)) (by decide) (.slice A9 n9 c9)).sb w.heap.size 2 ((x1a.box.set ⟨w.heap.size, 0, none⟩ (.bool b9)).set ⟨w.heap.size, 1, none⟩ (.slice A9 n9 c9)) (by decide) (.slice A'9 n'9 c'9))).mono (by decide), (((bw9.sc w.heap.size 0 (by omega) (.bool b9)).sc w.heap.size 1 (by omega) (.slice A9 n9 c9)).sc w.heap.size 2 (by omega) (.slice A'9 n'9 c'9))⟩
 ·have HV2 : Hid (Rat.divInt (-(zn : Int)) (zd : Int) = v) := Lib.hid HV.out
  clear HV
  go_enter Tryz.func8, Tryz.ntmps8
  go_wp2_with fail
  (with_reducible refine (t_number _ (s) hsl s.length hn).mono ?_); rintro e w1 ⟨rfl, hb1⟩
  have q1 := ((Below.refl _ _).alloc (Nat.le_refl _) _).trans (hb1.mono (by simp))
  have x1a : Blk w1 w.heap.size 32 #[.bool false, .slice none 0 0, .slice none 0 0] := (blkAt _ _ _ (by simp)).below hb1 (by simp)
  have bw1 := (brefl w).trans (q1.mono (brefl w).size)
  have lw1 : w.heap.size + 1 ≤ w1.heap.size := by have := hb1.size; simp at this; omega
  clear q1
  go_wp2_with fail
  (with_reducible refine (cutp_v _ (s) true D HH.out.1 HH.out.2).mono ?_); rintro e w2 ⟨rfl, q2⟩
  replace x1a := x1a.b q2
  have bw2 := bw1.trans (q2.mono bw1.size)
  have lw2 := q2.size
  clear q2 bw1
  go_wp2_with fail
  (with_reducible refine (cut_v _ (D) 47 D [] false (hmx.belw bw2) (by have := HBS.out; omega) HC1.out).mono ?_); rintro e w3 ⟨rfl, q3⟩
  replace x1a := x1a.b q3
  have bw3 := bw2.trans (q3.mono bw2.size)
  have lw3 := q3.size
  clear q3 bw2
  go_wp2_with fail
  (with_reducible refine (cut_v _ (D) 46 D [] false (hmx.belw bw3) (by have := HBS.out; omega) HC2.out).mono ?_); rintro e w4 ⟨rfl, q4⟩
  replace x1a := x1a.b q4
  have bw4 := bw3.trans (q4.mono bw3.size)
  have lw4 := q4.size
  clear q4 bw3
  go_wp2_with fail
  (with_reducible refine (t_plain _ (D) TN HTN.out).mono ?_); rintro e w5 ⟨rfl, q5⟩
  replace x1a := x1a.b q5
  have bw5 := bw4.trans (q5.mono bw4.size)
  have lw5 := q5.size
  clear q5 bw4
  go_wp2_with fail
  (with_reducible refine (parse_d _ (TN) (zn : Nat) HN.out.1 HN.out.2.1 HN.out.2.2).mono ?_); rintro e w6 ⟨b6, A6, n6, c6, rfl, h6, q6⟩
  replace x1a := x1a.b q6
  have bw6 := bw5.trans (q6.mono bw5.size)
  have lw6 := q6.size
  clear q6 bw5
  go_wp2_with fail
  (with_reducible refine (t_plain _ ([49]) TD HTD.out).mono ?_); rintro e w7 ⟨rfl, hb7⟩
  have q7 := ((Below.refl _ _).alloc (Nat.le_refl _) _).trans (hb7.mono (by simp))
  replace h6 := h6.belw q7
  replace x1a := x1a.b q7
  have x7a : Blk w7 w6.heap.size 52 #[.bool b6, .slice A6 n6 c6] := (blkAt _ _ _ (by simp)).below hb7 (by simp)
  have bw7 := bw6.trans (q7.mono bw6.size)
  have lw7 : w6.heap.size + 1 ≤ w7.heap.size := by have := hb7.size; simp at this; omega
  clear q7 bw6
  go_wp2_with fail
  (with_reducible refine (parse_d _ (TD) (zd : Nat) HD.out.1 HD.out.2.1 HD.out.2.2).mono ?_); rintro e w8 ⟨b8, A8, n8, c8, rfl, h8, q8⟩
  replace h6 := h6.belw q8
  replace x1a := x1a.b q8
  replace x7a := x7a.b q8
  have bw8 := bw7.trans (q8.mono bw7.size)
  have lw8 := q8.size
  clear q8 bw7
  obtain ⟨cx7aa, cx7ab⟩ := x7a.c2
  obtain ⟨lx7aa, lx7ab, lx7ac, lx7ad⟩ := lts0 x7a.lt
  go_wp2_with fail
  (with_reducible refine (i_neg _ b6 A6 n6 c6 (((zn : Nat) : Int)) (130) ?_ ?_).mono ?_); (exact (h6.belw ((Below.refl _ _).alloc (Nat.le_refl _) _)).iz); (first | omega | decide | assumption); rintro e w9 ⟨b9, A9, n9, c9, rfl, h9, hb9⟩
  clear cx7aa cx7ab lx7aa lx7ab lx7ac lx7ad
  have q9 := ((Below.refl _ _).alloc (Nat.le_refl _) _).trans (hb9.mono (by simp))
  replace h6 := h6.belw q9
  replace h8 := h8.belw q9
  replace x1a := x1a.b q9
  replace x7a := x7a.b q9
  have x9a : Blk w9 w8.heap.size 52 #[.bool b8, .slice A8 n8 c8] := (blkAt _ _ _ (by simp)).below hb9 (by simp)
  have bw9 := bw8.trans (q9.mono bw8.size)
  have lw9 : w8.heap.size + 1 ≤ w9.heap.size := by have := hb9.size; simp at this; omega
  clear q9 bw8
  obtain ⟨cx7aa, cx7ab⟩ := x7a.c2
  obtain ⟨fx7aa, fx7ab⟩ := x7a.f2
  obtain ⟨lx7aa, lx7ab, lx7ac, lx7ad⟩ := lts0 x7a.lt
  obtain ⟨cx9aa, cx9ab⟩ := x9a.c2
  obtain ⟨lx9aa, lx9ab, lx9ac, lx9ad⟩ := lts0 x9a.lt
  go_wp2_with fail
  clear cx7aa fx7aa cx7ab fx7ab lx7aa lx7ab lx7ac lx7ad cx9aa cx9ab lx9aa lx9ab lx9ac lx9ad
  have p10 := (((Kp.refl w9).sb w6.heap.size 0 x7a.box (by decide) (.bool b9)).sb w6.heap.size 1 (x7a.box.set ⟨w6.heap.size, 0, none⟩ (.bool b9)) (by decide) (.slice A9 n9 c9))
  have bw10 := ((bw9.sc w6.heap.size 0 (by omega) (.bool b9)).sc w6.heap.size 1 (by omega) (.slice A9 n9 c9))
  replace x1a := ((x1a.fr w6.heap.size 0 (by omega) (.bool b9)).fr w6.heap.size 1 (by omega) (.slice A9 n9 c9))
  replace x7a := ((x7a.set_at 0 (.bool b9) #[.bool b9, .slice A6 n6 c6] (by simp)).set_at 1 (.slice A9 n9 c9) #[.bool b9, .slice A9 n9 c9] (by simp))
  replace x9a := ((x9a.fr w6.heap.size 0 (by omega) (.bool b9)).fr w6.heap.size 1 (by omega) (.slice A9 n9 c9))
  have lw10 : w9.heap.size + 0 ≤ ((w9.setCell ⟨w6.heap.size, 0, none⟩ (.bool b9)).setCell ⟨w6.heap.size, 1, none⟩ (.slice A9 n9 c9)).heap.size := by simp
  generalize hE10 : ((w9.setCell ⟨w6.heap.size, 0, none⟩ (.bool b9)).setCell ⟨w6.heap.size, 1, none⟩ (.slice A9 n9 c9)) = w10 at p10 bw10 lw10 x1a x7a x9a ⊢
  clear hE10
  replace h6 := h6.keep p10
  replace h8 := h8.keep p10
  replace h9 := h9.keep p10
  clear bw9
  (with_reducible refine (f_from _ b9 A9 n9 c9 (-(((zn : Nat) : Int))) ((130)) ?_ b8 A8 n8 c8 (((zd : Nat) : Int)) (130) ?_ v 130 HZ0.out HV2.out HSZ.out (by decide)).mono ?_); (exact h9.iz); (exact h8.iz); rintro e w11 ⟨b11, A11, n11, c11, A'11, n'11, c'11, rfl, h11, q11⟩
  replace h6 := h6.belw q11
  replace h8 := h8.belw q11
  replace h9 := h9.belw q11
  replace x1a := x1a.b q11
  replace x7a := x7a.b q11
  replace x9a := x9a.b q11
  have bw11 := bw10.trans (q11.mono bw10.size)
  have lw11 := q11.size
  clear q11 bw10
  obtain ⟨cx1aa, cx1ab, cx1ac⟩ := x1a.c3
  obtain ⟨fx1aa, fx1ab, fx1ac⟩ := x1a.f3
  obtain ⟨lx1aa, lx1ab, lx1ac, lx1ad⟩ := lts0 x1a.lt
  go_wp2_with fail
  refine bodyPost_ret (v := .tuple #[.agg #[.bool b11, .slice A11 n11 c11, .slice A'11 n'11 c'11], .nilIface]) (by simp [results, Tryz.results8, go_sem, *] <;> first | rfl | exact ⟨rfl, rfl⟩) rfl ?_
  exact ⟨_, _, _, _, _, _, _, rfl, ((h11).keep ((((Kp.refl w11).sb w.heap.size 0 x1a.box (by decide) (.bool b11)).sb w.heap.size 1 (x1a.box.set ⟨w.heap.size, 0, none⟩ (.bool b11)) (by decide) (.slice A11 n11 c11)).sb w.heap.size 2 ((x1a.box.set ⟨w.heap.size, 0, none⟩ (.bool b11)).set ⟨w.heap.size, 1, none⟩ (.slice A11 n11 c11)) (by decide) (.slice A'11 n'11 c'11))).mono (by decide), (((bw11.sc w.heap.size 0 (by omega) (.bool b11)).sc w.heap.size 1 (by omega) (.slice A11 n11 c11)).sc w.heap.size 2 (by omega) (.slice A'11 n'11 c'11))⟩
theorem t_value_quo0 (w : World) (s : List UInt8) (m : Bool) (D E : List UInt8) (hmx : Mx w) (h : s.length ≤ 60) (hn : numN s = s.length) (hD : isD D) (hE : isD E) (hs : s = sg m (D ++ 47 :: E)) (h0 : decVal E = 0) : Calls Tryz.prog 8 #[strV s] w (RetFe w (.iface 42 (.int .i64 8)) 0 130) := by
 have hszs := size_v s
 have hlen : ((60 : Int) < (s.length : Int)) = False := eq_false (by omega)
 have hhm := headM_sg (m := m) (r := (47 :: E)) hD
 have h1l : D.length + (1 + E.length) ≤ s.length := by rw [hs]; cases m <;> simp [sg] <;> omega
 have h2l : 0 < D.length := List.length_pos_iff.2 hD.1
 have hBS : (D ++ 47 :: E).length ≤ 60 := by first | omega | (simp; omega)
 rw [← hs] at hhm
 have HH := Lib.hid hhm
 have HC1 := Lib.hid (cut_at (b := E) (isD_no hD (c := 47) (by decide)))
 have HC2 := Lib.hid (cut_no (c := 46) (a := D ++ 47 :: E) (by
  intro hm
  rcases List.mem_append.1 hm with e | e
  ·exact isD_no hD (by decide) e
  ·rcases List.mem_cons.1 e with e | e
   ·exact absurd e (by decide)
   ·exact isD_no hE (by decide) e))
 have hNd : D.all isDg = true := hD.2
 obtain ⟨TN, hTN⟩ : ∃ TN, plainT D = TN := ⟨_, rfl⟩
 obtain ⟨hN1, hN2, hN3⟩ := plain_ok hNd
 rw [hTN] at hN1 hN2 hN3
 obtain ⟨zn, hzn⟩ : ∃ zn : Nat, decVal D = zn := ⟨_, rfl⟩
 rw [hzn] at hN2
 have hNl : TN.length ≤ 130 := by omega
 have HTN := Lib.hid hTN
 have HN := Lib.hid (And.intro hN1 (And.intro hN2 hNl))
 obtain ⟨TD, hTD⟩ : ∃ TD, plainT E = TD := ⟨_, rfl⟩
 obtain ⟨hM1, hM2, hM3⟩ := plain_ok hE.2
 rw [hTD] at hM1 hM2 hM3
 obtain ⟨zd, hzd⟩ : ∃ zd : Nat, decVal E = zd := ⟨_, rfl⟩
 rw [hzd] at hM2
 have hMl : TD.length ≤ 130 := by omega
 have hDz : zd < 4294967296 ^ 60 := by rw [← hzd]; exact dec_sz60 hE.2 (by omega)
 have HTD := Lib.hid hTD
 have HD := Lib.hid (And.intro hM1 (And.intro hM2 hMl))
 have hNz : zn < 4294967296 ^ 60 := by rw [← hzn]; exact dec_sz60 hNd (by omega)
 have hzd0 : (zd : Int) = 0 := by rw [hzd] at h0; omega
 obtain ⟨v, hv⟩ : ∃ v : Rat, 0 = v := ⟨_, rfl⟩
 skip
 have HV : Hid (Rat.divInt (sgI m (zn : Nat)) (zd : Nat) = v) := Lib.hid (by rw [← hv, hzd0, Rat.divInt_zero])
 have HSZ : Hid (Sz v 130) := Lib.hid (by rw [← hv]; exact ⟨by decide, by decide⟩)
 have HZ0 := Lib.hid hzd0
 have hn0 : ((s.length : Int) == 0) = false := beq_eq_false_iff_ne.2 (by omega)
 have hn00 : ((s.length : Int) = 0) = False := eq_false (by omega)
 have hsl : s.length < 4611686018427387904 := by omega
 have HBS := Lib.hid hBS
 clear hs hhm hNd hTN hN1 hN2 hN3 hNl hTD hM1 hM2 hMl hNz hDz hzd0 hv hzn hzd hBS h0
 have HmD := Lib.hid hD
 clear hD
 have HmE := Lib.hid hE
 clear hE
 cases m
 ·have HV2 : Hid (Rat.divInt ((zn : Int)) (zd : Int) = v) := Lib.hid HV.out
  clear HV
  go_enter Tryz.func8, Tryz.ntmps8
  go_wp2_with fail
  (with_reducible refine (t_number _ (s) hsl s.length hn).mono ?_); rintro e w1 ⟨rfl, hb1⟩
  have q1 := ((Below.refl _ _).alloc (Nat.le_refl _) _).trans (hb1.mono (by simp))
  have x1a : Blk w1 w.heap.size 32 #[.bool false, .slice none 0 0, .slice none 0 0] := (blkAt _ _ _ (by simp)).below hb1 (by simp)
  have bw1 := (brefl w).trans (q1.mono (brefl w).size)
  have lw1 : w.heap.size + 1 ≤ w1.heap.size := by have := hb1.size; simp at this; omega
  clear q1
  go_wp2_with fail
  (with_reducible refine (cutp_v _ (s) false (D ++ 47 :: E) HH.out.1 HH.out.2).mono ?_); rintro e w2 ⟨rfl, q2⟩
  replace x1a := x1a.b q2
  have bw2 := bw1.trans (q2.mono bw1.size)
  have lw2 := q2.size
  clear q2 bw1
  go_wp2_with fail
  (with_reducible refine (cut_v _ ((D ++ 47 :: E)) 47 D E true (hmx.belw bw2) (by have := HBS.out; omega) HC1.out).mono ?_); rintro e w3 ⟨rfl, q3⟩
  replace x1a := x1a.b q3
  have bw3 := bw2.trans (q3.mono bw2.size)
  have lw3 := q3.size
  clear q3 bw2
  go_wp2_with fail
  (with_reducible refine (cut_v _ ((D ++ 47 :: E)) 46 (D ++ 47 :: E) [] false (hmx.belw bw3) (by have := HBS.out; omega) HC2.out).mono ?_); rintro e w4 ⟨rfl, q4⟩
  replace x1a := x1a.b q4
  have bw4 := bw3.trans (q4.mono bw3.size)
  have lw4 := q4.size
  clear q4 bw3
  go_wp2_with fail
  (with_reducible refine (t_plain _ (D) TN HTN.out).mono ?_); rintro e w5 ⟨rfl, q5⟩
  replace x1a := x1a.b q5
  have bw5 := bw4.trans (q5.mono bw4.size)
  have lw5 := q5.size
  clear q5 bw4
  go_wp2_with fail
  (with_reducible refine (parse_d _ (TN) (zn : Nat) HN.out.1 HN.out.2.1 HN.out.2.2).mono ?_); rintro e w6 ⟨b6, A6, n6, c6, rfl, h6, q6⟩
  replace x1a := x1a.b q6
  have bw6 := bw5.trans (q6.mono bw5.size)
  have lw6 := q6.size
  clear q6 bw5
  go_wp2_with fail
  (with_reducible refine (t_plain _ (E) TD HTD.out).mono ?_); rintro e w7 ⟨rfl, hb7⟩
  have q7 := ((Below.refl _ _).alloc (Nat.le_refl _) _).trans (hb7.mono (by simp))
  replace h6 := h6.belw q7
  replace x1a := x1a.b q7
  have x7a : Blk w7 w6.heap.size 52 #[.bool b6, .slice A6 n6 c6] := (blkAt _ _ _ (by simp)).below hb7 (by simp)
  have bw7 := bw6.trans (q7.mono bw6.size)
  have lw7 : w6.heap.size + 1 ≤ w7.heap.size := by have := hb7.size; simp at this; omega
  clear q7 bw6
  go_wp2_with fail
  (with_reducible refine (parse_d _ (TD) (zd : Nat) HD.out.1 HD.out.2.1 HD.out.2.2).mono ?_); rintro e w8 ⟨b8, A8, n8, c8, rfl, h8, q8⟩
  replace h6 := h6.belw q8
  replace x1a := x1a.b q8
  replace x7a := x7a.b q8
  have bw8 := bw7.trans (q8.mono bw7.size)
  have lw8 := q8.size
  clear q8 bw7
  obtain ⟨cx7aa, cx7ab⟩ := x7a.c2
  obtain ⟨lx7aa, lx7ab, lx7ac, lx7ad⟩ := lts0 x7a.lt
  go_wp2_with fail
  (with_reducible refine (f_from_0 _ b6 A6 n6 c6 (((zn : Nat) : Int)) (130) ?_ b8 A8 n8 c8 (((zd : Nat) : Int)) (130) ?_ HZ0.out (by decide)).mono ?_); (exact (h6.belw ((Below.refl _ _).alloc (Nat.le_refl _) _)).iz); (exact (h8.belw ((Below.refl _ _).alloc (Nat.le_refl _) _)).iz); rintro e w9 ⟨b9, A9, n9, c9, A'9, n'9, c'9, rfl, h9, hb9⟩
  clear cx7aa cx7ab lx7aa lx7ab lx7ac lx7ad
  have q9 := ((Below.refl _ _).alloc (Nat.le_refl _) _).trans (hb9.mono (by simp))
  replace h6 := h6.belw q9
  replace h8 := h8.belw q9
  replace x1a := x1a.b q9
  replace x7a := x7a.b q9
  have x9a : Blk w9 w8.heap.size 52 #[.bool b8, .slice A8 n8 c8] := (blkAt _ _ _ (by simp)).below hb9 (by simp)
  have bw9 := bw8.trans (q9.mono bw8.size)
  have lw9 : w8.heap.size + 1 ≤ w9.heap.size := by have := hb9.size; simp at this; omega
  clear q9 bw8
  obtain ⟨cx1aa, cx1ab, cx1ac⟩ := x1a.c3
  obtain ⟨fx1aa, fx1ab, fx1ac⟩ := x1a.f3
  obtain ⟨lx1aa, lx1ab, lx1ac, lx1ad⟩ := lts0 x1a.lt
  go_wp2_with fail
  refine bodyPost_ret (v := .tuple #[.agg #[.bool b9, .slice A9 n9 c9, .slice A'9 n'9 c'9], .iface 42 (.int .i64 8)]) (by simp [results, Tryz.results8, go_sem, *] <;> first | rfl | exact ⟨rfl, rfl⟩) rfl ?_
  exact ⟨_, _, _, _, _, _, _, rfl, ((h9).keep ((((Kp.refl w9).sb w.heap.size 0 x1a.box (by decide) (.bool b9)).sb w.heap.size 1 (x1a.box.set ⟨w.heap.size, 0, none⟩ (.bool b9)) (by decide) (.slice A9 n9 c9)).sb w.heap.size 2 ((x1a.box.set ⟨w.heap.size, 0, none⟩ (.bool b9)).set ⟨w.heap.size, 1, none⟩ (.slice A9 n9 c9)) (by decide) (.slice A'9 n'9 c'9))).mono (by decide), (((bw9.sc w.heap.size 0 (by omega) (.bool b9)).sc w.heap.size 1 (by omega) (.slice A9 n9 c9)).sc w.heap.size 2 (by omega) (.slice A'9 n'9 c'9))⟩
 ·have HV2 : Hid (Rat.divInt (-(zn : Int)) (zd : Int) = v) := Lib.hid HV.out
  clear HV
  go_enter Tryz.func8, Tryz.ntmps8
  go_wp2_with fail
  (with_reducible refine (t_number _ (s) hsl s.length hn).mono ?_); rintro e w1 ⟨rfl, hb1⟩
  have q1 := ((Below.refl _ _).alloc (Nat.le_refl _) _).trans (hb1.mono (by simp))
  have x1a : Blk w1 w.heap.size 32 #[.bool false, .slice none 0 0, .slice none 0 0] := (blkAt _ _ _ (by simp)).below hb1 (by simp)
  have bw1 := (brefl w).trans (q1.mono (brefl w).size)
  have lw1 : w.heap.size + 1 ≤ w1.heap.size := by have := hb1.size; simp at this; omega
  clear q1
  go_wp2_with fail
  (with_reducible refine (cutp_v _ (s) true (D ++ 47 :: E) HH.out.1 HH.out.2).mono ?_); rintro e w2 ⟨rfl, q2⟩
  replace x1a := x1a.b q2
  have bw2 := bw1.trans (q2.mono bw1.size)
  have lw2 := q2.size
  clear q2 bw1
  go_wp2_with fail
  (with_reducible refine (cut_v _ ((D ++ 47 :: E)) 47 D E true (hmx.belw bw2) (by have := HBS.out; omega) HC1.out).mono ?_); rintro e w3 ⟨rfl, q3⟩
  replace x1a := x1a.b q3
  have bw3 := bw2.trans (q3.mono bw2.size)
  have lw3 := q3.size
  clear q3 bw2
  go_wp2_with fail
  (with_reducible refine (cut_v _ ((D ++ 47 :: E)) 46 (D ++ 47 :: E) [] false (hmx.belw bw3) (by have := HBS.out; omega) HC2.out).mono ?_); rintro e w4 ⟨rfl, q4⟩
  replace x1a := x1a.b q4
  have bw4 := bw3.trans (q4.mono bw3.size)
  have lw4 := q4.size
  clear q4 bw3
  go_wp2_with fail
  (with_reducible refine (t_plain _ (D) TN HTN.out).mono ?_); rintro e w5 ⟨rfl, q5⟩
  replace x1a := x1a.b q5
  have bw5 := bw4.trans (q5.mono bw4.size)
  have lw5 := q5.size
  clear q5 bw4
  go_wp2_with fail
  (with_reducible refine (parse_d _ (TN) (zn : Nat) HN.out.1 HN.out.2.1 HN.out.2.2).mono ?_); rintro e w6 ⟨b6, A6, n6, c6, rfl, h6, q6⟩
  replace x1a := x1a.b q6
  have bw6 := bw5.trans (q6.mono bw5.size)
  have lw6 := q6.size
  clear q6 bw5
  go_wp2_with fail
  (with_reducible refine (t_plain _ (E) TD HTD.out).mono ?_); rintro e w7 ⟨rfl, hb7⟩
  have q7 := ((Below.refl _ _).alloc (Nat.le_refl _) _).trans (hb7.mono (by simp))
  replace h6 := h6.belw q7
  replace x1a := x1a.b q7
  have x7a : Blk w7 w6.heap.size 52 #[.bool b6, .slice A6 n6 c6] := (blkAt _ _ _ (by simp)).below hb7 (by simp)
  have bw7 := bw6.trans (q7.mono bw6.size)
  have lw7 : w6.heap.size + 1 ≤ w7.heap.size := by have := hb7.size; simp at this; omega
  clear q7 bw6
  go_wp2_with fail
  (with_reducible refine (parse_d _ (TD) (zd : Nat) HD.out.1 HD.out.2.1 HD.out.2.2).mono ?_); rintro e w8 ⟨b8, A8, n8, c8, rfl, h8, q8⟩
  replace h6 := h6.belw q8
  replace x1a := x1a.b q8
  replace x7a := x7a.b q8
  have bw8 := bw7.trans (q8.mono bw7.size)
  have lw8 := q8.size
  clear q8 bw7
  obtain ⟨cx7aa, cx7ab⟩ := x7a.c2
  obtain ⟨lx7aa, lx7ab, lx7ac, lx7ad⟩ := lts0 x7a.lt
  go_wp2_with fail
  (with_reducible refine (i_neg _ b6 A6 n6 c6 (((zn : Nat) : Int)) (130) ?_ ?_).mono ?_); (exact (h6.belw ((Below.refl _ _).alloc (Nat.le_refl _) _)).iz); (first | omega | decide | assumption); rintro e w9 ⟨b9, A9, n9, c9, rfl, h9, hb9⟩
  clear cx7aa cx7ab lx7aa lx7ab lx7ac lx7ad
  have q9 := ((Below.refl _ _).alloc (Nat.le_refl _) _).trans (hb9.mono (by simp))
  replace h6 := h6.belw q9
  replace h8 := h8.belw q9
  replace x1a := x1a.b q9
  replace x7a := x7a.b q9
  have x9a : Blk w9 w8.heap.size 52 #[.bool b8, .slice A8 n8 c8] := (blkAt _ _ _ (by simp)).below hb9 (by simp)
  have bw9 := bw8.trans (q9.mono bw8.size)
  have lw9 : w8.heap.size + 1 ≤ w9.heap.size := by have := hb9.size; simp at this; omega
  clear q9 bw8
  obtain ⟨cx7aa, cx7ab⟩ := x7a.c2
  obtain ⟨fx7aa, fx7ab⟩ := x7a.f2
  obtain ⟨lx7aa, lx7ab, lx7ac, lx7ad⟩ := lts0 x7a.lt
  obtain ⟨cx9aa, cx9ab⟩ := x9a.c2
  obtain ⟨lx9aa, lx9ab, lx9ac, lx9ad⟩ := lts0 x9a.lt
  go_wp2_with fail
  clear cx7aa fx7aa cx7ab fx7ab lx7aa lx7ab lx7ac lx7ad cx9aa cx9ab lx9aa lx9ab lx9ac lx9ad
  have p10 := (((Kp.refl w9).sb w6.heap.size 0 x7a.box (by decide) (.bool b9)).sb w6.heap.size 1 (x7a.box.set ⟨w6.heap.size, 0, none⟩ (.bool b9)) (by decide) (.slice A9 n9 c9))
  have bw10 := ((bw9.sc w6.heap.size 0 (by omega) (.bool b9)).sc w6.heap.size 1 (by omega) (.slice A9 n9 c9))
  replace x1a := ((x1a.fr w6.heap.size 0 (by omega) (.bool b9)).fr w6.heap.size 1 (by omega) (.slice A9 n9 c9))
  replace x7a := ((x7a.set_at 0 (.bool b9) #[.bool b9, .slice A6 n6 c6] (by simp)).set_at 1 (.slice A9 n9 c9) #[.bool b9, .slice A9 n9 c9] (by simp))
  replace x9a := ((x9a.fr w6.heap.size 0 (by omega) (.bool b9)).fr w6.heap.size 1 (by omega) (.slice A9 n9 c9))
  have lw10 : w9.heap.size + 0 ≤ ((w9.setCell ⟨w6.heap.size, 0, none⟩ (.bool b9)).setCell ⟨w6.heap.size, 1, none⟩ (.slice A9 n9 c9)).heap.size := by simp
  generalize hE10 : ((w9.setCell ⟨w6.heap.size, 0, none⟩ (.bool b9)).setCell ⟨w6.heap.size, 1, none⟩ (.slice A9 n9 c9)) = w10 at p10 bw10 lw10 x1a x7a x9a ⊢
  clear hE10
  replace h6 := h6.keep p10
  replace h8 := h8.keep p10
  replace h9 := h9.keep p10
  clear bw9
  (with_reducible refine (f_from_0 _ b9 A9 n9 c9 (-(((zn : Nat) : Int))) ((130)) ?_ b8 A8 n8 c8 (((zd : Nat) : Int)) (130) ?_ HZ0.out (by decide)).mono ?_); (exact h9.iz); (exact h8.iz); rintro e w11 ⟨b11, A11, n11, c11, A'11, n'11, c'11, rfl, h11, q11⟩
  replace h6 := h6.belw q11
  replace h8 := h8.belw q11
  replace h9 := h9.belw q11
  replace x1a := x1a.b q11
  replace x7a := x7a.b q11
  replace x9a := x9a.b q11
  have bw11 := bw10.trans (q11.mono bw10.size)
  have lw11 := q11.size
  clear q11 bw10
  obtain ⟨cx1aa, cx1ab, cx1ac⟩ := x1a.c3
  obtain ⟨fx1aa, fx1ab, fx1ac⟩ := x1a.f3
  obtain ⟨lx1aa, lx1ab, lx1ac, lx1ad⟩ := lts0 x1a.lt
  go_wp2_with fail
  refine bodyPost_ret (v := .tuple #[.agg #[.bool b11, .slice A11 n11 c11, .slice A'11 n'11 c'11], .iface 42 (.int .i64 8)]) (by simp [results, Tryz.results8, go_sem, *] <;> first | rfl | exact ⟨rfl, rfl⟩) rfl ?_
  exact ⟨_, _, _, _, _, _, _, rfl, ((h11).keep ((((Kp.refl w11).sb w.heap.size 0 x1a.box (by decide) (.bool b11)).sb w.heap.size 1 (x1a.box.set ⟨w.heap.size, 0, none⟩ (.bool b11)) (by decide) (.slice A11 n11 c11)).sb w.heap.size 2 ((x1a.box.set ⟨w.heap.size, 0, none⟩ (.bool b11)).set ⟨w.heap.size, 1, none⟩ (.slice A11 n11 c11)) (by decide) (.slice A'11 n'11 c'11))).mono (by decide), (((bw11.sc w.heap.size 0 (by omega) (.bool b11)).sc w.heap.size 1 (by omega) (.slice A11 n11 c11)).sc w.heap.size 2 (by omega) (.slice A'11 n'11 c'11))⟩
theorem t_value_quo (w : World) (s : List UInt8) (m : Bool) (D E : List UInt8) (hmx : Mx w) (h : s.length ≤ 60) (hn : numN s = s.length) (hD : isD D) (hE : isD E) (hs : s = sg m (D ++ 47 :: E)) (h0 : decVal E ≠ 0) : Calls Tryz.prog 8 #[strV s] w (RetFe w .nilIface (Rat.divInt (sgI m (decVal D)) (decVal E)) 130) := by
 have hszs := size_v s
 have hlen : ((60 : Int) < (s.length : Int)) = False := eq_false (by omega)
 have hhm := headM_sg (m := m) (r := (47 :: E)) hD
 have h1l : D.length + (1 + E.length) ≤ s.length := by rw [hs]; cases m <;> simp [sg] <;> omega
 have h2l : 0 < D.length := List.length_pos_iff.2 hD.1
 have hBS : (D ++ 47 :: E).length ≤ 60 := by first | omega | (simp; omega)
 rw [← hs] at hhm
 have HH := Lib.hid hhm
 have HC1 := Lib.hid (cut_at (b := E) (isD_no hD (c := 47) (by decide)))
 have HC2 := Lib.hid (cut_no (c := 46) (a := D ++ 47 :: E) (by
  intro hm
  rcases List.mem_append.1 hm with e | e
  ·exact isD_no hD (by decide) e
  ·rcases List.mem_cons.1 e with e | e
   ·exact absurd e (by decide)
   ·exact isD_no hE (by decide) e))
 have hNd : D.all isDg = true := hD.2
 obtain ⟨TN, hTN⟩ : ∃ TN, plainT D = TN := ⟨_, rfl⟩
 obtain ⟨hN1, hN2, hN3⟩ := plain_ok hNd
 rw [hTN] at hN1 hN2 hN3
 obtain ⟨zn, hzn⟩ : ∃ zn : Nat, decVal D = zn := ⟨_, rfl⟩
 rw [hzn] at hN2
 have hNl : TN.length ≤ 130 := by omega
 have HTN := Lib.hid hTN
 have HN := Lib.hid (And.intro hN1 (And.intro hN2 hNl))
 obtain ⟨TD, hTD⟩ : ∃ TD, plainT E = TD := ⟨_, rfl⟩
 obtain ⟨hM1, hM2, hM3⟩ := plain_ok hE.2
 rw [hTD] at hM1 hM2 hM3
 obtain ⟨zd, hzd⟩ : ∃ zd : Nat, decVal E = zd := ⟨_, rfl⟩
 rw [hzd] at hM2
 have hMl : TD.length ≤ 130 := by omega
 have hDz : zd < 4294967296 ^ 60 := by rw [← hzd]; exact dec_sz60 hE.2 (by omega)
 have HTD := Lib.hid hTD
 have HD := Lib.hid (And.intro hM1 (And.intro hM2 hMl))
 have hNz : zn < 4294967296 ^ 60 := by rw [← hzn]; exact dec_sz60 hNd (by omega)
 rw [hzn, hzd]
 have hzd0 : (zd : Int) ≠ 0 := by rw [hzd] at h0; omega
 obtain ⟨v, hv⟩ : ∃ v : Rat, Rat.divInt (sgI m (zn : Nat)) (zd : Nat) = v := ⟨_, rfl⟩
 rw [hv]
 have HV : Hid (Rat.divInt (sgI m (zn : Nat)) (zd : Nat) = v) := Lib.hid (hv)
 have HSZ : Hid (Sz v 130) := Lib.hid (by rw [← HV.out]; exact Sz_divInt (by rw [sgI_abs]; exact Nat.lt_trans hNz (Nat.pow_lt_pow_right (by decide) (by decide))) (by rw [Int.natAbs_natCast]; exact Nat.lt_trans hDz (Nat.pow_lt_pow_right (by decide) (by decide))) (by decide))
 have HZ0 := Lib.hid hzd0
 have hn0 : ((s.length : Int) == 0) = false := beq_eq_false_iff_ne.2 (by omega)
 have hn00 : ((s.length : Int) = 0) = False := eq_false (by omega)
 have hsl : s.length < 4611686018427387904 := by omega
 have HBS := Lib.hid hBS
 clear hs hhm hNd hTN hN1 hN2 hN3 hNl hTD hM1 hM2 hMl hNz hDz hzd0 hv hzn hzd hBS h0
 have HmD := Lib.hid hD
 clear hD
 have HmE := Lib.hid hE
 clear hE
 cases m
 ·have HV2 : Hid (Rat.divInt ((zn : Int)) (zd : Int) = v) := Lib.hid HV.out
  clear HV
  go_enter Tryz.func8, Tryz.ntmps8
  go_wp2_with fail
  (with_reducible refine (t_number _ (s) hsl s.length hn).mono ?_); rintro e w1 ⟨rfl, hb1⟩
  have q1 := ((Below.refl _ _).alloc (Nat.le_refl _) _).trans (hb1.mono (by simp))
  have x1a : Blk w1 w.heap.size 32 #[.bool false, .slice none 0 0, .slice none 0 0] := (blkAt _ _ _ (by simp)).below hb1 (by simp)
  have bw1 := (brefl w).trans (q1.mono (brefl w).size)
  have lw1 : w.heap.size + 1 ≤ w1.heap.size := by have := hb1.size; simp at this; omega
  clear q1
  go_wp2_with fail
  (with_reducible refine (cutp_v _ (s) false (D ++ 47 :: E) HH.out.1 HH.out.2).mono ?_); rintro e w2 ⟨rfl, q2⟩
  replace x1a := x1a.b q2
  have bw2 := bw1.trans (q2.mono bw1.size)
  have lw2 := q2.size
  clear q2 bw1
  go_wp2_with fail
  (with_reducible refine (cut_v _ ((D ++ 47 :: E)) 47 D E true (hmx.belw bw2) (by have := HBS.out; omega) HC1.out).mono ?_); rintro e w3 ⟨rfl, q3⟩
  replace x1a := x1a.b q3
  have bw3 := bw2.trans (q3.mono bw2.size)
  have lw3 := q3.size
  clear q3 bw2
  go_wp2_with fail
  (with_reducible refine (cut_v _ ((D ++ 47 :: E)) 46 (D ++ 47 :: E) [] false (hmx.belw bw3) (by have := HBS.out; omega) HC2.out).mono ?_); rintro e w4 ⟨rfl, q4⟩
  replace x1a := x1a.b q4
  have bw4 := bw3.trans (q4.mono bw3.size)
  have lw4 := q4.size
  clear q4 bw3
  go_wp2_with fail
  (with_reducible refine (t_plain _ (D) TN HTN.out).mono ?_); rintro e w5 ⟨rfl, q5⟩
  replace x1a := x1a.b q5
  have bw5 := bw4.trans (q5.mono bw4.size)
  have lw5 := q5.size
  clear q5 bw4
  go_wp2_with fail
  (with_reducible refine (parse_d _ (TN) (zn : Nat) HN.out.1 HN.out.2.1 HN.out.2.2).mono ?_); rintro e w6 ⟨b6, A6, n6, c6, rfl, h6, q6⟩
  replace x1a := x1a.b q6
  have bw6 := bw5.trans (q6.mono bw5.size)
  have lw6 := q6.size
  clear q6 bw5
  go_wp2_with fail
  (with_reducible refine (t_plain _ (E) TD HTD.out).mono ?_); rintro e w7 ⟨rfl, hb7⟩
  have q7 := ((Below.refl _ _).alloc (Nat.le_refl _) _).trans (hb7.mono (by simp))
  replace h6 := h6.belw q7
  replace x1a := x1a.b q7
  have x7a : Blk w7 w6.heap.size 52 #[.bool b6, .slice A6 n6 c6] := (blkAt _ _ _ (by simp)).below hb7 (by simp)
  have bw7 := bw6.trans (q7.mono bw6.size)
  have lw7 : w6.heap.size + 1 ≤ w7.heap.size := by have := hb7.size; simp at this; omega
  clear q7 bw6
  go_wp2_with fail
  (with_reducible refine (parse_d _ (TD) (zd : Nat) HD.out.1 HD.out.2.1 HD.out.2.2).mono ?_); rintro e w8 ⟨b8, A8, n8, c8, rfl, h8, q8⟩
  replace h6 := h6.belw q8
  replace x1a := x1a.b q8
  replace x7a := x7a.b q8
  have bw8 := bw7.trans (q8.mono bw7.size)
  have lw8 := q8.size
  clear q8 bw7
  obtain ⟨cx7aa, cx7ab⟩ := x7a.c2
  obtain ⟨lx7aa, lx7ab, lx7ac, lx7ad⟩ := lts0 x7a.lt
  go_wp2_with fail
  (with_reducible refine (f_from _ b6 A6 n6 c6 (((zn : Nat) : Int)) (130) ?_ b8 A8 n8 c8 (((zd : Nat) : Int)) (130) ?_ v 130 HZ0.out HV2.out HSZ.out (by decide)).mono ?_); (exact (h6.belw ((Below.refl _ _).alloc (Nat.le_refl _) _)).iz); (exact (h8.belw ((Below.refl _ _).alloc (Nat.le_refl _) _)).iz); rintro e w9 ⟨b9, A9, n9, c9, A'9, n'9, c'9, rfl, h9, hb9⟩
  clear cx7aa cx7ab lx7aa lx7ab lx7ac lx7ad
  have q9 := ((Below.refl _ _).alloc (Nat.le_refl _) _).trans (hb9.mono (by simp))
  replace h6 := h6.belw q9
  replace h8 := h8.belw q9
  replace x1a := x1a.b q9
  replace x7a := x7a.b q9
  have x9a : Blk w9 w8.heap.size 52 #[.bool b8, .slice A8 n8 c8] := (blkAt _ _ _ (by simp)).below hb9 (by simp)
  have bw9 := bw8.trans (q9.mono bw8.size)
  have lw9 : w8.heap.size + 1 ≤ w9.heap.size := by have := hb9.size; simp at this; omega
  clear q9 bw8
  obtain ⟨cx1aa, cx1ab, cx1ac⟩ := x1a.c3
  obtain ⟨fx1aa, fx1ab, fx1ac⟩ := x1a.f3
  obtain ⟨lx1aa, lx1ab, lx1ac, lx1ad⟩ := lts0 x1a.lt
  go_wp2_with fail
  refine bodyPost_ret (v := .tuple #[.agg #[.bool b9, .slice A9 n9 c9, .slice A'9 n'9 c'9], .nilIface]) (by simp [results, Tryz.results8, go_sem, *] <;> first | rfl | exact ⟨rfl, rfl⟩) rfl ?_
  exact ⟨_, _, _, _, _, _, _, rfl, ((h9).keep ((((Kp.refl w9).sb w.heap.size 0 x1a.box (by decide) (.bool b9)).sb w.heap.size 1 (x1a.box.set ⟨w.heap.size, 0, none⟩ (.bool b9)) (by decide) (.slice A9 n9 c9)).sb w.heap.size 2 ((x1a.box.set ⟨w.heap.size, 0, none⟩ (.bool b9)).set ⟨w.heap.size, 1, none⟩ (.slice A9 n9 c9)) (by decide) (.slice A'9 n'9 c'9))).mono (by decide), (((bw9.sc w.heap.size 0 (by omega) (.bool b9)).sc w.heap.size 1 (by omega) (.slice A9 n9 c9)).sc w.heap.size 2 (by omega) (.slice A'9 n'9 c'9))⟩
 ·have HV2 : Hid (Rat.divInt (-(zn : Int)) (zd : Int) = v) := Lib.hid HV.out
  clear HV
  go_enter Tryz.func8, Tryz.ntmps8
  go_wp2_with fail
  (with_reducible refine (t_number _ (s) hsl s.length hn).mono ?_); rintro e w1 ⟨rfl, hb1⟩
  have q1 := ((Below.refl _ _).alloc (Nat.le_refl _) _).trans (hb1.mono (by simp))
  have x1a : Blk w1 w.heap.size 32 #[.bool false, .slice none 0 0, .slice none 0 0] := (blkAt _ _ _ (by simp)).below hb1 (by simp)
  have bw1 := (brefl w).trans (q1.mono (brefl w).size)
  have lw1 : w.heap.size + 1 ≤ w1.heap.size := by have := hb1.size; simp at this; omega
  clear q1
  go_wp2_with fail
  (with_reducible refine (cutp_v _ (s) true (D ++ 47 :: E) HH.out.1 HH.out.2).mono ?_); rintro e w2 ⟨rfl, q2⟩
  replace x1a := x1a.b q2
  have bw2 := bw1.trans (q2.mono bw1.size)
  have lw2 := q2.size
  clear q2 bw1
  go_wp2_with fail
  (with_reducible refine (cut_v _ ((D ++ 47 :: E)) 47 D E true (hmx.belw bw2) (by have := HBS.out; omega) HC1.out).mono ?_); rintro e w3 ⟨rfl, q3⟩
  replace x1a := x1a.b q3
  have bw3 := bw2.trans (q3.mono bw2.size)
  have lw3 := q3.size
  clear q3 bw2
  go_wp2_with fail
  (with_reducible refine (cut_v _ ((D ++ 47 :: E)) 46 (D ++ 47 :: E) [] false (hmx.belw bw3) (by have := HBS.out; omega) HC2.out).mono ?_); rintro e w4 ⟨rfl, q4⟩
  replace x1a := x1a.b q4
  have bw4 := bw3.trans (q4.mono bw3.size)
  have lw4 := q4.size
  clear q4 bw3
  go_wp2_with fail
  (with_reducible refine (t_plain _ (D) TN HTN.out).mono ?_); rintro e w5 ⟨rfl, q5⟩
  replace x1a := x1a.b q5
  have bw5 := bw4.trans (q5.mono bw4.size)
  have lw5 := q5.size
  clear q5 bw4
  go_wp2_with fail
  (with_reducible refine (parse_d _ (TN) (zn : Nat) HN.out.1 HN.out.2.1 HN.out.2.2).mono ?_); rintro e w6 ⟨b6, A6, n6, c6, rfl, h6, q6⟩
  replace x1a := x1a.b q6
  have bw6 := bw5.trans (q6.mono bw5.size)
  have lw6 := q6.size
  clear q6 bw5
  go_wp2_with fail
  (with_reducible refine (t_plain _ (E) TD HTD.out).mono ?_); rintro e w7 ⟨rfl, hb7⟩
  have q7 := ((Below.refl _ _).alloc (Nat.le_refl _) _).trans (hb7.mono (by simp))
  replace h6 := h6.belw q7
  replace x1a := x1a.b q7
  have x7a : Blk w7 w6.heap.size 52 #[.bool b6, .slice A6 n6 c6] := (blkAt _ _ _ (by simp)).below hb7 (by simp)
  have bw7 := bw6.trans (q7.mono bw6.size)
  have lw7 : w6.heap.size + 1 ≤ w7.heap.size := by have := hb7.size; simp at this; omega
  clear q7 bw6
  go_wp2_with fail
  (with_reducible refine (parse_d _ (TD) (zd : Nat) HD.out.1 HD.out.2.1 HD.out.2.2).mono ?_); rintro e w8 ⟨b8, A8, n8, c8, rfl, h8, q8⟩
  replace h6 := h6.belw q8
  replace x1a := x1a.b q8
  replace x7a := x7a.b q8
  have bw8 := bw7.trans (q8.mono bw7.size)
  have lw8 := q8.size
  clear q8 bw7
  obtain ⟨cx7aa, cx7ab⟩ := x7a.c2
  obtain ⟨lx7aa, lx7ab, lx7ac, lx7ad⟩ := lts0 x7a.lt
  go_wp2_with fail
  (with_reducible refine (i_neg _ b6 A6 n6 c6 (((zn : Nat) : Int)) (130) ?_ ?_).mono ?_); (exact (h6.belw ((Below.refl _ _).alloc (Nat.le_refl _) _)).iz); (first | omega | decide | assumption); rintro e w9 ⟨b9, A9, n9, c9, rfl, h9, hb9⟩
  clear cx7aa cx7ab lx7aa lx7ab lx7ac lx7ad
  have q9 := ((Below.refl _ _).alloc (Nat.le_refl _) _).trans (hb9.mono (by simp))
  replace h6 := h6.belw q9
  replace h8 := h8.belw q9
  replace x1a := x1a.b q9
  replace x7a := x7a.b q9
  have x9a : Blk w9 w8.heap.size 52 #[.bool b8, .slice A8 n8 c8] := (blkAt _ _ _ (by simp)).below hb9 (by simp)
  have bw9 := bw8.trans (q9.mono bw8.size)
  have lw9 : w8.heap.size + 1 ≤ w9.heap.size := by have := hb9.size; simp at this; omega
  clear q9 bw8
  obtain ⟨cx7aa, cx7ab⟩ := x7a.c2
  obtain ⟨fx7aa, fx7ab⟩ := x7a.f2
  obtain ⟨lx7aa, lx7ab, lx7ac, lx7ad⟩ := lts0 x7a.lt
  obtain ⟨cx9aa, cx9ab⟩ := x9a.c2
  obtain ⟨lx9aa, lx9ab, lx9ac, lx9ad⟩ := lts0 x9a.lt
  go_wp2_with fail
  clear cx7aa fx7aa cx7ab fx7ab lx7aa lx7ab lx7ac lx7ad cx9aa cx9ab lx9aa lx9ab lx9ac lx9ad
  have p10 := (((Kp.refl w9).sb w6.heap.size 0 x7a.box (by decide) (.bool b9)).sb w6.heap.size 1 (x7a.box.set ⟨w6.heap.size, 0, none⟩ (.bool b9)) (by decide) (.slice A9 n9 c9))
  have bw10 := ((bw9.sc w6.heap.size 0 (by omega) (.bool b9)).sc w6.heap.size 1 (by omega) (.slice A9 n9 c9))
  replace x1a := ((x1a.fr w6.heap.size 0 (by omega) (.bool b9)).fr w6.heap.size 1 (by omega) (.slice A9 n9 c9))
  replace x7a := ((x7a.set_at 0 (.bool b9) #[.bool b9, .slice A6 n6 c6] (by simp)).set_at 1 (.slice A9 n9 c9) #[.bool b9, .slice A9 n9 c9] (by simp))
  replace x9a := ((x9a.fr w6.heap.size 0 (by omega) (.bool b9)).fr w6.heap.size 1 (by omega) (.slice A9 n9 c9))
  have lw10 : w9.heap.size + 0 ≤ ((w9.setCell ⟨w6.heap.size, 0, none⟩ (.bool b9)).setCell ⟨w6.heap.size, 1, none⟩ (.slice A9 n9 c9)).heap.size := by simp
  generalize hE10 : ((w9.setCell ⟨w6.heap.size, 0, none⟩ (.bool b9)).setCell ⟨w6.heap.size, 1, none⟩ (.slice A9 n9 c9)) = w10 at p10 bw10 lw10 x1a x7a x9a ⊢
  clear hE10
  replace h6 := h6.keep p10
  replace h8 := h8.keep p10
  replace h9 := h9.keep p10
  clear bw9
  (with_reducible refine (f_from _ b9 A9 n9 c9 (-(((zn : Nat) : Int))) ((130)) ?_ b8 A8 n8 c8 (((zd : Nat) : Int)) (130) ?_ v 130 HZ0.out HV2.out HSZ.out (by decide)).mono ?_); (exact h9.iz); (exact h8.iz); rintro e w11 ⟨b11, A11, n11, c11, A'11, n'11, c'11, rfl, h11, q11⟩
  replace h6 := h6.belw q11
  replace h8 := h8.belw q11
  replace h9 := h9.belw q11
  replace x1a := x1a.b q11
  replace x7a := x7a.b q11
  replace x9a := x9a.b q11
  have bw11 := bw10.trans (q11.mono bw10.size)
  have lw11 := q11.size
  clear q11 bw10
  obtain ⟨cx1aa, cx1ab, cx1ac⟩ := x1a.c3
  obtain ⟨fx1aa, fx1ab, fx1ac⟩ := x1a.f3
  obtain ⟨lx1aa, lx1ab, lx1ac, lx1ad⟩ := lts0 x1a.lt
  go_wp2_with fail
  refine bodyPost_ret (v := .tuple #[.agg #[.bool b11, .slice A11 n11 c11, .slice A'11 n'11 c'11], .nilIface]) (by simp [results, Tryz.results8, go_sem, *] <;> first | rfl | exact ⟨rfl, rfl⟩) rfl ?_
  exact ⟨_, _, _, _, _, _, _, rfl, ((h11).keep ((((Kp.refl w11).sb w.heap.size 0 x1a.box (by decide) (.bool b11)).sb w.heap.size 1 (x1a.box.set ⟨w.heap.size, 0, none⟩ (.bool b11)) (by decide) (.slice A11 n11 c11)).sb w.heap.size 2 ((x1a.box.set ⟨w.heap.size, 0, none⟩ (.bool b11)).set ⟨w.heap.size, 1, none⟩ (.slice A11 n11 c11)) (by decide) (.slice A'11 n'11 c'11))).mono (by decide), (((bw11.sc w.heap.size 0 (by omega) (.bool b11)).sc w.heap.size 1 (by omega) (.slice A11 n11 c11)).sc w.heap.size 2 (by omega) (.slice A'11 n'11 c'11))⟩
theorem t_value_dot (w : World) (s : List UInt8) (m : Bool) (D E : List UInt8) (hmx : Mx w) (h : s.length ≤ 60) (hn : numN s = s.length) (hD : isD D) (hE : isD E) (hs : s = sg m (D ++ 46 :: E)) : Calls Tryz.prog 8 #[strV s] w (RetFe w .nilIface (Rat.divInt (sgI m (decVal (D ++ E))) ((10 ^ E.length : Nat) : Int)) 130) := by
 have hszs := size_v s
 have hlen : ((60 : Int) < (s.length : Int)) = False := eq_false (by omega)
 have hhm := headM_sg (m := m) (r := (46 :: E)) hD
 have h1l : D.length + (1 + E.length) ≤ s.length := by rw [hs]; cases m <;> simp [sg] <;> omega
 have h2l : 0 < D.length := List.length_pos_iff.2 hD.1
 have hBS : (D ++ 46 :: E).length ≤ 60 := by first | omega | (simp; omega)
 rw [← hs] at hhm
 have HH := Lib.hid hhm
 have HC2 := Lib.hid (cut_at (b := E) (isD_no hD (c := 46) (by decide)))
 have HC1 := Lib.hid (cut_no (c := 47) (a := D ++ 46 :: E) (by
  intro hm
  rcases List.mem_append.1 hm with e | e
  ·exact isD_no hD (by decide) e
  ·rcases List.mem_cons.1 e with e | e
   ·exact absurd e (by decide)
   ·exact isD_no hE (by decide) e))
 have hNd : (D ++ E).all isDg = true := by rw [List.all_append, hD.2, hE.2]; rfl
 obtain ⟨TN, hTN⟩ : ∃ TN, plainT (D ++ E) = TN := ⟨_, rfl⟩
 obtain ⟨hN1, hN2, hN3⟩ := plain_ok hNd
 rw [hTN] at hN1 hN2 hN3
 obtain ⟨zn, hzn⟩ : ∃ zn : Nat, decVal (D ++ E) = zn := ⟨_, rfl⟩
 rw [hzn] at hN2
 have hNl : TN.length ≤ 130 := by have : (D ++ E).length = D.length + E.length := List.length_append; omega
 have HTN := Lib.hid hTN
 have HN := Lib.hid (And.intro hN1 (And.intro hN2 hNl))
 obtain ⟨Z, hZ⟩ : ∃ Z : List UInt8, List.replicate E.length 48 = Z := ⟨_, rfl⟩
 obtain ⟨TD, hTD⟩ : ∃ TD, plainT (49 :: Z) = TD := ⟨_, rfl⟩
 obtain ⟨t1, t2, t3⟩ := ten_pow_val E.length
 obtain ⟨hM1, hM2, hM3⟩ := plain_ok t3
 rw [hZ] at t1 t2 hM1 hM2 hM3
 rw [hTD] at hM1 hM2 hM3
 obtain ⟨zd, hzd⟩ : ∃ zd : Nat, 10 ^ E.length = zd := ⟨_, rfl⟩
 rw [t2, hzd] at hM2
 have hZl : Z.length = E.length := by rw [← hZ]; simp
 have hMl : TD.length ≤ 130 := by rw [List.length_cons] at hM3; omega
 have hDz : zd < 4294967296 ^ 60 := by
  rw [← hzd]
  have h2 : (10 : Nat) ^ E.length ≤ 10 ^ 60 := Nat.pow_le_pow_right (by decide) (by omega)
  have h3 : (10 : Nat) ^ 60 < 4294967296 ^ 60 := by decide
  omega
 have ha1 := app_v D E
 have ha2 := app_v [49] Z
 have hk1 : (9223372036854775807 < D.length + E.length) = False := eq_false (by omega)
 have hk2 : (9223372036854775807 < 1 + Z.length) = False := eq_false (by omega)
 have HZ := Lib.hid hZ
 clear hZ t1 t2 t3
 have HTD := Lib.hid hTD
 have HD := Lib.hid (And.intro hM1 (And.intro hM2 hMl))
 have hNz : zn < 4294967296 ^ 60 := by rw [← hzn]; exact dec_sz60 hNd (by have : (D ++ E).length = D.length + E.length := List.length_append; omega)
 rw [hzn, hzd]
 have hzd0 : (zd : Int) ≠ 0 := by rw [← hzd]; have := Nat.pow_pos (n := E.length) (show 0 < 10 by decide); omega
 obtain ⟨v, hv⟩ : ∃ v : Rat, Rat.divInt (sgI m (zn : Nat)) (zd : Nat) = v := ⟨_, rfl⟩
 rw [hv]
 have HV : Hid (Rat.divInt (sgI m (zn : Nat)) (zd : Nat) = v) := Lib.hid (hv)
 have HSZ : Hid (Sz v 130) := Lib.hid (by rw [← HV.out]; exact Sz_divInt (by rw [sgI_abs]; exact Nat.lt_trans hNz (Nat.pow_lt_pow_right (by decide) (by decide))) (by rw [Int.natAbs_natCast]; exact Nat.lt_trans hDz (Nat.pow_lt_pow_right (by decide) (by decide))) (by decide))
 have HZ0 := Lib.hid hzd0
 have hn0 : ((s.length : Int) == 0) = false := beq_eq_false_iff_ne.2 (by omega)
 have hn00 : ((s.length : Int) = 0) = False := eq_false (by omega)
 have hsl : s.length < 4611686018427387904 := by omega
 have HBS := Lib.hid hBS
 clear hs hhm hNd hTN hN1 hN2 hN3 hNl hTD hM1 hM2 hMl hNz hDz hzd0 hv hzn hzd hBS
 have HmD := Lib.hid hD
 clear hD
 have HmE := Lib.hid hE
 clear hE
 cases m
 ·have HV2 : Hid (Rat.divInt ((zn : Int)) (zd : Int) = v) := Lib.hid HV.out
  clear HV
  go_enter Tryz.func8, Tryz.ntmps8
  go_wp2_with fail
  (with_reducible refine (t_number _ (s) hsl s.length hn).mono ?_); rintro e w1 ⟨rfl, hb1⟩
  have q1 := ((Below.refl _ _).alloc (Nat.le_refl _) _).trans (hb1.mono (by simp))
  have x1a : Blk w1 w.heap.size 32 #[.bool false, .slice none 0 0, .slice none 0 0] := (blkAt _ _ _ (by simp)).below hb1 (by simp)
  have bw1 := (brefl w).trans (q1.mono (brefl w).size)
  have lw1 : w.heap.size + 1 ≤ w1.heap.size := by have := hb1.size; simp at this; omega
  clear q1
  go_wp2_with fail
  (with_reducible refine (cutp_v _ (s) false (D ++ 46 :: E) HH.out.1 HH.out.2).mono ?_); rintro e w2 ⟨rfl, q2⟩
  replace x1a := x1a.b q2
  have bw2 := bw1.trans (q2.mono bw1.size)
  have lw2 := q2.size
  clear q2 bw1
  go_wp2_with fail
  (with_reducible refine (cut_v _ ((D ++ 46 :: E)) 47 (D ++ 46 :: E) [] false (hmx.belw bw2) (by have := HBS.out; omega) HC1.out).mono ?_); rintro e w3 ⟨rfl, q3⟩
  replace x1a := x1a.b q3
  have bw3 := bw2.trans (q3.mono bw2.size)
  have lw3 := q3.size
  clear q3 bw2
  go_wp2_with fail
  (with_reducible refine (cut_v _ ((D ++ 46 :: E)) 46 D E true (hmx.belw bw3) (by have := HBS.out; omega) HC2.out).mono ?_); rintro e w4 ⟨rfl, q4⟩
  replace x1a := x1a.b q4
  have bw4 := bw3.trans (q4.mono bw3.size)
  have lw4 := q4.size
  clear q4 bw3
  go_wp2_with fail
  (with_reducible refine (rep_v _ E.length (by omega) Z HZ.out).mono ?_); rintro e w5 ⟨rfl, q5⟩
  replace x1a := x1a.b q5
  have bw5 := bw4.trans (q5.mono bw4.size)
  have lw5 := q5.size
  clear q5 bw4
  go_wp2_with fail
  (with_reducible refine (t_plain _ ((D ++ E)) TN HTN.out).mono ?_); rintro e w6 ⟨rfl, q6⟩
  replace x1a := x1a.b q6
  have bw6 := bw5.trans (q6.mono bw5.size)
  have lw6 := q6.size
  clear q6 bw5
  go_wp2_with fail
  (with_reducible refine (parse_d _ (TN) (zn : Nat) HN.out.1 HN.out.2.1 HN.out.2.2).mono ?_); rintro e w7 ⟨b7, A7, n7, c7, rfl, h7, q7⟩
  replace x1a := x1a.b q7
  have bw7 := bw6.trans (q7.mono bw6.size)
  have lw7 := q7.size
  clear q7 bw6
  go_wp2_with fail
  (with_reducible refine (t_plain _ ((49 :: Z)) TD HTD.out).mono ?_); rintro e w8 ⟨rfl, hb8⟩
  have q8 := ((Below.refl _ _).alloc (Nat.le_refl _) _).trans (hb8.mono (by simp))
  replace h7 := h7.belw q8
  replace x1a := x1a.b q8
  have x8a : Blk w8 w7.heap.size 52 #[.bool b7, .slice A7 n7 c7] := (blkAt _ _ _ (by simp)).below hb8 (by simp)
  have bw8 := bw7.trans (q8.mono bw7.size)
  have lw8 : w7.heap.size + 1 ≤ w8.heap.size := by have := hb8.size; simp at this; omega
  clear q8 bw7
  go_wp2_with fail
  (with_reducible refine (parse_d _ (TD) (zd : Nat) HD.out.1 HD.out.2.1 HD.out.2.2).mono ?_); rintro e w9 ⟨b9, A9, n9, c9, rfl, h9, q9⟩
  replace h7 := h7.belw q9
  replace x1a := x1a.b q9
  replace x8a := x8a.b q9
  have bw9 := bw8.trans (q9.mono bw8.size)
  have lw9 := q9.size
  clear q9 bw8
  obtain ⟨cx8aa, cx8ab⟩ := x8a.c2
  obtain ⟨lx8aa, lx8ab, lx8ac, lx8ad⟩ := lts0 x8a.lt
  go_wp2_with fail
  (with_reducible refine (f_from _ b7 A7 n7 c7 (((zn : Nat) : Int)) (130) ?_ b9 A9 n9 c9 (((zd : Nat) : Int)) (130) ?_ v 130 HZ0.out HV2.out HSZ.out (by decide)).mono ?_); (exact (h7.belw ((Below.refl _ _).alloc (Nat.le_refl _) _)).iz); (exact (h9.belw ((Below.refl _ _).alloc (Nat.le_refl _) _)).iz); rintro e w10 ⟨b10, A10, n10, c10, A'10, n'10, c'10, rfl, h10, hb10⟩
  clear cx8aa cx8ab lx8aa lx8ab lx8ac lx8ad
  have q10 := ((Below.refl _ _).alloc (Nat.le_refl _) _).trans (hb10.mono (by simp))
  replace h7 := h7.belw q10
  replace h9 := h9.belw q10
  replace x1a := x1a.b q10
  replace x8a := x8a.b q10
  have x10a : Blk w10 w9.heap.size 52 #[.bool b9, .slice A9 n9 c9] := (blkAt _ _ _ (by simp)).below hb10 (by simp)
  have bw10 := bw9.trans (q10.mono bw9.size)
  have lw10 : w9.heap.size + 1 ≤ w10.heap.size := by have := hb10.size; simp at this; omega
  clear q10 bw9
  obtain ⟨cx1aa, cx1ab, cx1ac⟩ := x1a.c3
  obtain ⟨fx1aa, fx1ab, fx1ac⟩ := x1a.f3
  obtain ⟨lx1aa, lx1ab, lx1ac, lx1ad⟩ := lts0 x1a.lt
  go_wp2_with fail
  refine bodyPost_ret (v := .tuple #[.agg #[.bool b10, .slice A10 n10 c10, .slice A'10 n'10 c'10], .nilIface]) (by simp [results, Tryz.results8, go_sem, *] <;> first | rfl | exact ⟨rfl, rfl⟩) rfl ?_
  exact ⟨_, _, _, _, _, _, _, rfl, ((h10).keep ((((Kp.refl w10).sb w.heap.size 0 x1a.box (by decide) (.bool b10)).sb w.heap.size 1 (x1a.box.set ⟨w.heap.size, 0, none⟩ (.bool b10)) (by decide) (.slice A10 n10 c10)).sb w.heap.size 2 ((x1a.box.set ⟨w.heap.size, 0, none⟩ (.bool b10)).set ⟨w.heap.size, 1, none⟩ (.slice A10 n10 c10)) (by decide) (.slice A'10 n'10 c'10))).mono (by decide), (((bw10.sc w.heap.size 0 (by omega) (.bool b10)).sc w.heap.size 1 (by omega) (.slice A10 n10 c10)).sc w.heap.size 2 (by omega) (.slice A'10 n'10 c'10))⟩
 ·have HV2 : Hid (Rat.divInt (-(zn : Int)) (zd : Int) = v) := Lib.hid HV.out
  clear HV
  go_enter Tryz.func8, Tryz.ntmps8
  go_wp2_with fail
  (with_reducible refine (t_number _ (s) hsl s.length hn).mono ?_); rintro e w1 ⟨rfl, hb1⟩
  have q1 := ((Below.refl _ _).alloc (Nat.le_refl _) _).trans (hb1.mono (by simp))
  have x1a : Blk w1 w.heap.size 32 #[.bool false, .slice none 0 0, .slice none 0 0] := (blkAt _ _ _ (by simp)).below hb1 (by simp)
  have bw1 := (brefl w).trans (q1.mono (brefl w).size)
  have lw1 : w.heap.size + 1 ≤ w1.heap.size := by have := hb1.size; simp at this; omega
  clear q1
  go_wp2_with fail
  (with_reducible refine (cutp_v _ (s) true (D ++ 46 :: E) HH.out.1 HH.out.2).mono ?_); rintro e w2 ⟨rfl, q2⟩
  replace x1a := x1a.b q2
  have bw2 := bw1.trans (q2.mono bw1.size)
  have lw2 := q2.size
  clear q2 bw1
  go_wp2_with fail
  (with_reducible refine (cut_v _ ((D ++ 46 :: E)) 47 (D ++ 46 :: E) [] false (hmx.belw bw2) (by have := HBS.out; omega) HC1.out).mono ?_); rintro e w3 ⟨rfl, q3⟩
  replace x1a := x1a.b q3
  have bw3 := bw2.trans (q3.mono bw2.size)
  have lw3 := q3.size
  clear q3 bw2
  go_wp2_with fail
  (with_reducible refine (cut_v _ ((D ++ 46 :: E)) 46 D E true (hmx.belw bw3) (by have := HBS.out; omega) HC2.out).mono ?_); rintro e w4 ⟨rfl, q4⟩
  replace x1a := x1a.b q4
  have bw4 := bw3.trans (q4.mono bw3.size)
  have lw4 := q4.size
  clear q4 bw3
  go_wp2_with fail
  (with_reducible refine (rep_v _ E.length (by omega) Z HZ.out).mono ?_); rintro e w5 ⟨rfl, q5⟩
  replace x1a := x1a.b q5
  have bw5 := bw4.trans (q5.mono bw4.size)
  have lw5 := q5.size
  clear q5 bw4
  go_wp2_with fail
  (with_reducible refine (t_plain _ ((D ++ E)) TN HTN.out).mono ?_); rintro e w6 ⟨rfl, q6⟩
  replace x1a := x1a.b q6
  have bw6 := bw5.trans (q6.mono bw5.size)
  have lw6 := q6.size
  clear q6 bw5
  go_wp2_with fail
  (with_reducible refine (parse_d _ (TN) (zn : Nat) HN.out.1 HN.out.2.1 HN.out.2.2).mono ?_); rintro e w7 ⟨b7, A7, n7, c7, rfl, h7, q7⟩
  replace x1a := x1a.b q7
  have bw7 := bw6.trans (q7.mono bw6.size)
  have lw7 := q7.size
  clear q7 bw6
  go_wp2_with fail
  (with_reducible refine (t_plain _ ((49 :: Z)) TD HTD.out).mono ?_); rintro e w8 ⟨rfl, hb8⟩
  have q8 := ((Below.refl _ _).alloc (Nat.le_refl _) _).trans (hb8.mono (by simp))
  replace h7 := h7.belw q8
  replace x1a := x1a.b q8
  have x8a : Blk w8 w7.heap.size 52 #[.bool b7, .slice A7 n7 c7] := (blkAt _ _ _ (by simp)).below hb8 (by simp)
  have bw8 := bw7.trans (q8.mono bw7.size)
  have lw8 : w7.heap.size + 1 ≤ w8.heap.size := by have := hb8.size; simp at this; omega
  clear q8 bw7
  go_wp2_with fail
  (with_reducible refine (parse_d _ (TD) (zd : Nat) HD.out.1 HD.out.2.1 HD.out.2.2).mono ?_); rintro e w9 ⟨b9, A9, n9, c9, rfl, h9, q9⟩
  replace h7 := h7.belw q9
  replace x1a := x1a.b q9
  replace x8a := x8a.b q9
  have bw9 := bw8.trans (q9.mono bw8.size)
  have lw9 := q9.size
  clear q9 bw8
  obtain ⟨cx8aa, cx8ab⟩ := x8a.c2
  obtain ⟨lx8aa, lx8ab, lx8ac, lx8ad⟩ := lts0 x8a.lt
  go_wp2_with fail
  (with_reducible refine (i_neg _ b7 A7 n7 c7 (((zn : Nat) : Int)) (130) ?_ ?_).mono ?_); (exact (h7.belw ((Below.refl _ _).alloc (Nat.le_refl _) _)).iz); (first | omega | decide | assumption); rintro e w10 ⟨b10, A10, n10, c10, rfl, h10, hb10⟩
  clear cx8aa cx8ab lx8aa lx8ab lx8ac lx8ad
  have q10 := ((Below.refl _ _).alloc (Nat.le_refl _) _).trans (hb10.mono (by simp))
  replace h7 := h7.belw q10
  replace h9 := h9.belw q10
  replace x1a := x1a.b q10
  replace x8a := x8a.b q10
  have x10a : Blk w10 w9.heap.size 52 #[.bool b9, .slice A9 n9 c9] := (blkAt _ _ _ (by simp)).below hb10 (by simp)
  have bw10 := bw9.trans (q10.mono bw9.size)
  have lw10 : w9.heap.size + 1 ≤ w10.heap.size := by have := hb10.size; simp at this; omega
  clear q10 bw9
  obtain ⟨cx8aa, cx8ab⟩ := x8a.c2
  obtain ⟨fx8aa, fx8ab⟩ := x8a.f2
  obtain ⟨lx8aa, lx8ab, lx8ac, lx8ad⟩ := lts0 x8a.lt
  obtain ⟨cx10aa, cx10ab⟩ := x10a.c2
  obtain ⟨lx10aa, lx10ab, lx10ac, lx10ad⟩ := lts0 x10a.lt
  go_wp2_with fail
  clear cx8aa fx8aa cx8ab fx8ab lx8aa lx8ab lx8ac lx8ad cx10aa cx10ab lx10aa lx10ab lx10ac lx10ad
  have p11 := (((Kp.refl w10).sb w7.heap.size 0 x8a.box (by decide) (.bool b10)).sb w7.heap.size 1 (x8a.box.set ⟨w7.heap.size, 0, none⟩ (.bool b10)) (by decide) (.slice A10 n10 c10))
  have bw11 := ((bw10.sc w7.heap.size 0 (by omega) (.bool b10)).sc w7.heap.size 1 (by omega) (.slice A10 n10 c10))
  replace x1a := ((x1a.fr w7.heap.size 0 (by omega) (.bool b10)).fr w7.heap.size 1 (by omega) (.slice A10 n10 c10))
  replace x8a := ((x8a.set_at 0 (.bool b10) #[.bool b10, .slice A7 n7 c7] (by simp)).set_at 1 (.slice A10 n10 c10) #[.bool b10, .slice A10 n10 c10] (by simp))
  replace x10a := ((x10a.fr w7.heap.size 0 (by omega) (.bool b10)).fr w7.heap.size 1 (by omega) (.slice A10 n10 c10))
  have lw11 : w10.heap.size + 0 ≤ ((w10.setCell ⟨w7.heap.size, 0, none⟩ (.bool b10)).setCell ⟨w7.heap.size, 1, none⟩ (.slice A10 n10 c10)).heap.size := by simp
  generalize hE11 : ((w10.setCell ⟨w7.heap.size, 0, none⟩ (.bool b10)).setCell ⟨w7.heap.size, 1, none⟩ (.slice A10 n10 c10)) = w11 at p11 bw11 lw11 x1a x8a x10a ⊢
  clear hE11
  replace h7 := h7.keep p11
  replace h9 := h9.keep p11
  replace h10 := h10.keep p11
  clear bw10
  (with_reducible refine (f_from _ b10 A10 n10 c10 (-(((zn : Nat) : Int))) ((130)) ?_ b9 A9 n9 c9 (((zd : Nat) : Int)) (130) ?_ v 130 HZ0.out HV2.out HSZ.out (by decide)).mono ?_); (exact h10.iz); (exact h9.iz); rintro e w12 ⟨b12, A12, n12, c12, A'12, n'12, c'12, rfl, h12, q12⟩
  replace h7 := h7.belw q12
  replace h9 := h9.belw q12
  replace h10 := h10.belw q12
  replace x1a := x1a.b q12
  replace x8a := x8a.b q12
  replace x10a := x10a.b q12
  have bw12 := bw11.trans (q12.mono bw11.size)
  have lw12 := q12.size
  clear q12 bw11
  obtain ⟨cx1aa, cx1ab, cx1ac⟩ := x1a.c3
  obtain ⟨fx1aa, fx1ab, fx1ac⟩ := x1a.f3
  obtain ⟨lx1aa, lx1ab, lx1ac, lx1ad⟩ := lts0 x1a.lt
  go_wp2_with fail
  refine bodyPost_ret (v := .tuple #[.agg #[.bool b12, .slice A12 n12 c12, .slice A'12 n'12 c'12], .nilIface]) (by simp [results, Tryz.results8, go_sem, *] <;> first | rfl | exact ⟨rfl, rfl⟩) rfl ?_
  exact ⟨_, _, _, _, _, _, _, rfl, ((h12).keep ((((Kp.refl w12).sb w.heap.size 0 x1a.box (by decide) (.bool b12)).sb w.heap.size 1 (x1a.box.set ⟨w.heap.size, 0, none⟩ (.bool b12)) (by decide) (.slice A12 n12 c12)).sb w.heap.size 2 ((x1a.box.set ⟨w.heap.size, 0, none⟩ (.bool b12)).set ⟨w.heap.size, 1, none⟩ (.slice A12 n12 c12)) (by decide) (.slice A'12 n'12 c'12))).mono (by decide), (((bw12.sc w.heap.size 0 (by omega) (.bool b12)).sc w.heap.size 1 (by omega) (.slice A12 n12 c12)).sc w.heap.size 2 (by omega) (.slice A'12 n'12 c'12))⟩
end Go.Proofs.YtjanfdkbficmbaaGreatDoor

/- Walks: tokens: what opens the laws. -/
namespace Go.Proofs.YtjanfdkbficmbaaGreatDoor
open Go Go.RowKit Bn
attribute [local go_sem ↓] Go.wp_at_zero Go.wp_at_succ
theorem errV_88 : errV 8 = .iface 42 (.int .i64 8) := if_neg (by decide)
theorem t_value_o (w : World) (s : List UInt8) (x : Int) (q : Rat) (hmx : Mx w) (h : ValOut s x q) : Calls Tryz.prog 8 #[strV s] w (RetFe w (errV x) q 130) := by
  have hm : ∀ {v : Value} {e : Ending} {w' : World}, RetFe w v q 1 e w' → RetFe w v q 130 e w' := fun h => by
    obtain ⟨b, A, n, c, A', n', c', h1, h2, h3⟩ := h
    exact ⟨b, A, n, c, A', n', c', h1, h2.mono (by decide), h3⟩
  rcases h with ⟨h, rfl, rfl⟩ | ⟨h, hb, rfl, rfl⟩ | ⟨m, D, h, hn, hD, hs, rfl, rfl⟩ | ⟨m, D, E, h, hn, hD, hE, hs, h0, rfl, rfl⟩ | ⟨m, D, E, h, hn, hD, hE, hs, h0, rfl, rfl⟩ | ⟨m, D, E, h, hn, hD, hE, hs, rfl, rfl⟩
  · rw [errV_4]; exact (t_value_large w s h).mono fun _ _ r => hm r
  · rw [errV_2]; exact (t_value_bad w s h hb).mono fun _ _ r => hm r
  · rw [errV_0]; exact t_value_whole w s m D hmx h hn hD hs
  · rw [errV_88]; exact t_value_quo0 w s m D E hmx h hn hD hE hs h0
  · rw [errV_0]; exact t_value_quo w s m D E hmx h hn hD hE hs h0
  · rw [errV_0]; exact t_value_dot w s m D E hmx h hn hD hE hs
theorem t_split_x (w : World) (s : List UInt8) (x : Int) (l : List Tkn) (h : SplitOut s x l) : Calls Tryz.prog 7 #[strV s] w (RetTks w (errV x) l) :=
  (t_split w s).mono fun _ _ ⟨x', l', h', r⟩ => by
    obtain ⟨rfl, rfl⟩ := h.uniq h'
    exact r
theorem b_rat_v9 (w : World) (b : Bool) (A : Option Addr) (n c : Nat) (D : Option Addr) (m e : Nat) (q : Rat) (k : Nat) (h : QV w b A n c D m e q k) (b' : Bool) (A' : Option Addr) (n' c' : Nat) (D' : Option Addr) (m' e' : Nat) (q' : Rat) (k' : Nat) (h' : QV w b' A' n' c' D' m' e' q' k') (hq : q = q') (hk : k ≤ 1000000) : Calls Tryz.prog 10 #[.agg #[.bool b, .slice A n c, .slice D m e], .agg #[.bool b', .slice A' n' c', .slice D' m' e']] w (RetV w (.bool true)) := by
  subst hq
  exact b_rat w b A n c D m e b' A' n' c' D' m' e' q k k' h h' hk
abbrev exS : List UInt8 := [112, 105, 110, 32, 106, 49, 32, 97, 46, 79, 32, 37, 32, 120]
def exL : List Tkn := [⟨0, [112, 105, 110], 1, 1⟩, ⟨0, [106, 49], 1, 5⟩, ⟨0, [97], 1, 8⟩, ⟨2, [46], 1, 9⟩, ⟨0, [79], 1, 10⟩]
theorem ex_tok : tokens exS = .ok exL := by kernel_rfl
theorem ex_out : SplitOut exS 0 exL := .ok (by decide) ex_tok rfl
theorem ex_val : ValOut [45, 51, 47, 52] 0 (Rat.divInt (-3) 4) := .quo true [51] [52] (by decide) (by decide +kernel) ⟨by decide, by decide⟩ ⟨by decide, by decide⟩ rfl (by decide) rfl rfl
theorem l18_awake (w : World) (hmx : Mx w) : Calls Tryz.prog 4 #[] w (RetV w (.bool true)) := by
 obtain ⟨v, hv⟩ : ∃ v : Rat, Rat.divInt (-3) 4 = v := ⟨_, rfl⟩
 have HSZ := Lib.hid (show Sz v 130 by rw [← hv]; exact Sz_divInt (by decide) (by decide) (by decide))
 have HE := Lib.hid ex_val
 rw [hv] at HE
 have HV := Lib.hid hv
 have HX := Lib.hid ex_out
 clear hv
 go_enter Tryz.func4, Tryz.ntmps4
 go_wp2_with fail
 (with_reducible refine (t_split_x w exS 0 exL HX.out).mono ?_); rintro e w1 ⟨A, n, c, rfl, hS, hb1⟩
 obtain rfl : n = 5 := hS.1.symm
 have hmx1 := hmx.belw hb1
 have HS := Lib.hid hS
 clear hS
 rw [errV_0]
 go_wp2_with fail
 (with_reducible refine (t_value_o w1 [45, 51, 47, 52] 0 v hmx1 HE.out).mono ?_); rintro e w2 ⟨b2, A2, n2, c2, D2, m2, e2, rfl, h2, hb2⟩
 have HS2 := Lib.hid (HS.out.belw hb2)
 have bw2 := hb1.trans (hb2.mono hb1.size)
 clear HS hb1 hb2 hmx1
 rw [errV_0]
 go_wp2_with fail
 (with_reducible refine (g_make _ (-3) 4 (by decide) (by decide) (by decide) (by decide) v 130 (by decide) HV.out HSZ.out).mono ?_); rintro e w3 ⟨b3, A3, n3, c3, D3, m3, e3, rfl, h3, hb3⟩
 have q3 := ((Below.refl _ _).alloc (Nat.le_refl _) _).trans (hb3.mono (by simp))
 have x2 : Blk w3 w2.heap.size 32 #[.bool b2, .slice A2 n2 c2, .slice D2 m2 e2] := (blkAt _ _ _ (by simp)).below hb3 (by simp)
 have bw3 := bw2.trans (q3.mono bw2.size)
 replace h2 := h2.belw q3
 have hS3 := HS2.out.belw q3
 obtain ⟨g, t, e, hc, ht, k0, k1, k2, k3⟩ := hS3.cells (i := 3) (by decide)
 obtain rfl : t = ⟨2, [46], 1, 9⟩ := (Option.some.inj ht).symm
 subst e
 simp only [show 3 * 4 = 12 from rfl, show 12 + 1 = 13 from rfl, show 12 + 2 = 14 from rfl, show 12 + 3 = 15 from rfl] at k0 k1 k2 k3
 have hgl : g < w3.heap.size := World.block_lt_of_cell? w3 _ k0
 have lw3 : w2.heap.size < w3.heap.size := x2.lt
 obtain ⟨cx0, cx1, cx2⟩ := x2.c3
 have hne : ¬ g = w3.heap.size := by omega
 have hne2 : ¬ w2.heap.size = w3.heap.size := by omega
 clear HS2 q3 hb3 ht
 go_wp2_with fail
 (with_reducible refine (b_rat_v9 _ b2 A2 n2 c2 D2 m2 e2 v 130 ?_ b3 A3 n3 c3 D3 m3 e3 v 130 ?_ rfl (by decide)).mono ?_); (exact h2.belw ((Below.refl _ _).alloc (Nat.le_refl _) _)); (exact h3.belw ((Below.refl _ _).alloc (Nat.le_refl _) _)); rintro e w4 ⟨rfl, hb4⟩
 have q4 := ((Below.refl _ _).alloc (Nat.le_refl _) _).trans (hb4.mono (by simp))
 go_wp2_with fail
 go_ret
 exact retB rfl (bw3.trans (q4.mono bw3.size))
end Go.Proofs.YtjanfdkbficmbaaGreatDoor

/- Join of any tokens (both), the law TokenJoinsAll; tokens read as data under the second form's bound. -/
namespace Go.Proofs.YtjanfdkbficmbaaGreatDoor
open Go Go.RowKit Bn Go.ChangeShapes Go.WideShapes
section
attribute [local go_sem ↓] Go.wp_at_zero Go.wp_at_succ
structure TokL where
  kind : Int
  text : List UInt8
  line : Int
  col : Int
instance : Inhabited TokL := ⟨⟨0, [], 0, 0⟩⟩
def TkAt (w : World) (g o : Nat) (t : TokL) : Prop := w.cell? ⟨g, o, none⟩ = some (.int .i64 t.kind) ∧ w.cell? ⟨g, o + 1, none⟩ = some (strV t.text) ∧ w.cell? ⟨g, o + 2, none⟩ = some (.int .i64 t.line) ∧ w.cell? ⟨g, o + 3, none⟩ = some (.int .i64 t.col)
def SlS {α : Type} (P : World → Nat → Nat → α → Prop) (s : Nat) (w : World) (A : Option Addr) (n c : Nat) (l : List α) : Prop :=
  l.length = n ∧ n ≤ c ∧ (0 < n → ∃ g o, A = some ⟨g, o, none⟩ ∧ g < w.heap.size ∧ ∀ i a, l[i]? = some a → P w g (o + i * s) a)
theorem cell_belw {w w' : World} {g o : Nat} {v : Value} (h : w.cell? ⟨g, o, none⟩ = some v) (hb : Below w.heap.size w w') : w'.cell? ⟨g, o, none⟩ = some v := (hb.cell (p := ⟨g, o, none⟩) (World.block_lt_of_cell? w _ h)).trans h
theorem SlS.tk_ {w w' : World} {A : Option Addr} {n c : Nat} {l : List TokL} (h : SlS TkAt 4 w A n c l) (hb : Below w.heap.size w w') : SlS TkAt 4 w' A n c l := by
  refine ⟨h.1, h.2.1, fun hn => ?_⟩
  obtain ⟨g, o, e, hg, h3⟩ := h.2.2 hn
  exact ⟨g, o, e, Nat.lt_of_lt_of_le hg hb.size, fun i a ha => ⟨cell_belw (h3 i a ha).1 hb, cell_belw (h3 i a ha).2.1 hb, cell_belw (h3 i a ha).2.2.1 hb, cell_belw (h3 i a ha).2.2.2 hb⟩⟩
theorem SlS.at_ {α : Type} {P : World → Nat → Nat → α → Prop} {s : Nat} {w : World} {A : Option Addr} {n c : Nat} {l : List α} (h : SlS P s w A n c l) {i : Nat} (hi : i < n) : ∃ g o a, A = some ⟨g, o, none⟩ ∧ g < w.heap.size ∧ n ≤ c ∧ l[i]? = some a ∧ P w g (o + i * s) a := by
  obtain ⟨g, o, e, hg, h3⟩ := h.2.2 (by omega)
  have hl : i < l.length := by rw [h.1]; exact hi
  exact ⟨g, o, l[i], e, hg, h.2.1, List.getElem?_eq_getElem hl, h3 i _ (List.getElem?_eq_getElem hl)⟩
theorem r_joinA (w : World) (A : Option Addr) (n c : Nat) (l : List TokL) (h : SlS TkAt 4 w A n c l) (hn : n < 1000000000000) (hlen : (joinT (l.map TokL.text)).length ≤ 140737488355328) : Calls Tryz.prog 6 #[.slice A n c] w (RetV w (strV (joinT (l.map TokL.text)))) := by
 go_enter Tryz.func6, Tryz.ntmps6
 go_wp2_with fail
 go_loopw [3, 4] (fun ov iv wr => ∃ i : Nat, ov = strV (joinT ((l.take i).map TokL.text)) ∧ iv = .int .i64 (i : Nat) ∧ i ≤ n ∧ Below w.heap.size w wr) (fun _ iv _ => n - (intOf iv).toNat)
 case atStart => exact ⟨0, rfl, rfl, Nat.zero_le _, brefl w⟩
 case round =>
  obtain ⟨i, rfl, rfl, hi, hb⟩ := hrel
  rcases Nat.lt_or_ge i n with hlt | hge
  ·have hi1 : ((i : Int) < (n : Int)) = True := by simp; omega
   obtain ⟨g, o, t, e, hg, hc, ht, c0, c1, c2, c3⟩ := (h.tk_ hb).at_ hlt
   subst e
   have H := Lib.hid h
   have htk : l.take (i + 1) = l.take i ++ [t] := by rw [List.take_add_one, ht]; rfl
   obtain ⟨x, hx⟩ : ∃ x, joinT ((l.take i).map TokL.text) = x := ⟨_, rfl⟩
   have ha := app_v x [32]
   have ha2 := app_v (x ++ [32]) t.text
   have ha3 := app_v x t.text
   have hlen9 := h.1
   have hjt := joinT_take (l.map TokL.text) (i + 1)
   rw [← List.map_take] at hjt
   clear h
   rcases Nat.eq_zero_or_pos i with h0 | h0
   ·subst h0
    have hx0 : x = [] := by rw [← hx]; rfl
    subst hx0
    simp only [Nat.zero_mul, Nat.add_zero] at c0 c1 c2 c3
    have hR : joinT ((l.take (0 + 1)).map TokL.text) = t.text := by rw [htk]; rfl
    rw [hR] at hjt
    have hk : (9223372036854775807 < t.text.length) = False := by simp; omega
    rw [hx]
    go_wp2_with fail
    go_roundw
    case rel => exact ⟨0 + 1, by rw [hR], by go_num, by omega, hb⟩
    case measure => simp [intOf]; omega
   ·have hi2 : ((0 : Int) < (i : Int)) = True := by simp; omega
    have hR : joinT ((l.take (i + 1)).map TokL.text) = x ++ [32] ++ t.text := by
     rw [htk, List.map_append, List.map_singleton, joinT_snoc _ _ (by
      intro e
      have := congrArg List.length e
      simp at this
      rcases this with h9 | h9
      ·omega
      ·rw [h9] at hlen9; simp at hlen9; omega), hx]
     simp
    rw [hR] at hjt
    simp only [List.length_append, List.length_singleton] at hjt
    have hk1 : (9223372036854775807 < x.length + 1) = False := by simp; omega
    have hk2 : (9223372036854775807 < x.length + 1 + t.text.length) = False := by simp; omega
    have hk3 : (9223372036854775807 < x.length + (1 + t.text.length)) = False := by simp; omega
    rw [hx]
    go_wp2_with fail
    go_roundw
    case rel => exact ⟨i + 1, by rw [hR]; simp, by go_num, by omega, hb⟩
    case measure => simp [intOf]; omega
  ·have hi1 : ((i : Int) < (n : Int)) = False := by simp; omega
   have hR : l.take i = l := List.take_of_length_le (by have := h.1; omega)
   have H := Lib.hid h
   clear h
   rw [hR]
   clear hR
   go_wp2_with fail
   go_ret
   exact ⟨rfl, hb⟩
theorem t_joinA (w : World) (A : Option Addr) (n c : Nat) (l : List TokL) (h : SlS TkAt 4 w A n c l) (hn : n < 1000000000000) (hlen : (joinT (l.map TokL.text)).length ≤ 140737488355328) : Calls Tryz.prog 5 #[.slice A n c] w (RetV w (strV (joinT (l.map TokL.text)))) := by
 obtain ⟨i0, hi0, hz0, hz1, hz2⟩ := info_parts info_str
 have HI := Lib.hid (And.intro hi0 (And.intro hz0 (And.intro hz1 hz2)))
 clear hi0 hz0 hz1 hz2
 go_enter Tryz.func5, Tryz.ntmps5
 go_wp2_with fail
 go_loopw [3, 8] (fun ov iv wr => ∃ i : Nat, iv = .int .i64 (i : Nat) ∧ i ≤ n ∧ wr.ownsRow w.heap.size 9 1 ov i (strCs ((l.take i).map TokL.text)) ∧ Below w.heap.size w wr) (fun _ iv _ => n - (intOf iv).toNat)
 case atStart => exact ⟨0, rfl, Nat.zero_le _, ⟨rfl, .inl ⟨rfl, rfl⟩⟩, brefl w⟩
 case round =>
  obtain ⟨i, rfl, hi, hown, hb⟩ := hrel
  have HO := Lib.hid hown
  clear hown
  have hlen9 := h.1
  rcases Nat.lt_or_ge i n with hlt | hge
  ·have hi1 : ((i : Int) < (n : Int)) = True := by simp; omega
   obtain ⟨g, o, t, e, hg, hc, ht, c0, c1, c2, c3⟩ := (h.tk_ hb).at_ hlt
   have hgl : g < wr.heap.size := World.block_lt_of_cell? wr _ c0
   subst e
   have H := Lib.hid h
   have htk : l.take (i + 1) = l.take i ++ [t] := by rw [List.take_add_one, ht]; rfl
   have hR : strCs ((l.take (i + 1)).map TokL.text) = strCs ((l.take i).map TokL.text) ++ [strV t.text] := by rw [htk]; simp [strCs]
   have HR := Lib.hid hR
   have hbs := hb.size
   clear h htk hR ht hlen
   go_wp2_with (at_builtin; refine wpList_append_lies _ rfl _ _ _ rfl w.heap.size 9 i0 (.string ⟨#[]⟩) 1 16 Tryz.underlying40 HI.out.1 HI.out.2.1 HI.out.2.2.1 HI.out.2.2.2 rfl (by omega) _ i (strCs ((l.take i).map TokL.text)) rfl ((HO.out.alloc _).alloc _) ⟨wr.heap.size + 1, 0, none⟩ 1 1 [_] rfl rfl (news2 wr _ _ _) (by simp [Value.oneCell']) (by omega) (by unfold maxLen; omega) (by omega) (by simp; omega) (wr.heap.size + 1 + 1) (by simp) ?_; intro gx cap w9 hown1 hgrow hat hlt1)
   go_roundw
   case rel => exact ⟨i + 1, by go_num, by omega, by rw [HR.out]; exact hown1, ((hb.alloc hb.size _).alloc (by simp; omega) _).grown hgrow (by simp; omega) (own_base HO.out)⟩
   case measure => simp [intOf]; omega
  ·have hi1 : ((i : Int) < (n : Int)) = False := by simp; omega
   have hR : l.take i = l := List.take_of_length_le (by omega)
   rw [hR] at HO
   obtain rfl : i = n := by omega
   have H := Lib.hid h
   clear h hR
   rcases HO.out.2 with ⟨rfl, h0⟩ | ⟨g, cap, cur, rfl, hbg, hg, hnc, hcm, hcs, hct⟩
   ·have hl0 : l = [] := List.eq_nil_of_length_eq_zero (by omega)
    subst h0
    go_wp2_with fail
    (with_reducible refine (Tryz.strings_Join_none none 0 ⟨#[32]⟩ wr).mono ?_); rintro e w' ⟨rfl, rfl⟩
    go_wp2_with fail
    go_ret
    exact ⟨by rw [hl0]; rfl, hb⟩
   ·have hcl : g < wr.heap.size := lt_of_block hg
    have HC : Hid (∀ (j : Nat) x, (l.map TokL.text)[j]? = some x → wr.cell? ⟨g, j, none⟩ = some (strV x)) := Lib.hid (fun j x hx => by
     rw [cell_of_row wr g j cur _ (0, 0) hg]
     have h9 : (strCs (l.map TokL.text))[j]? = some (strV x) := by unfold strCs; rw [List.getElem?_map, hx]; rfl
     rw [← hct, List.getElem?_take] at h9
     split at h9
     ·simpa using h9
     ·cases h9)
    clear hg hct hcs
    go_wp2_with fail
    (with_reducible refine (join18_v wr g cap i (l.map TokL.text) (by rw [List.length_map]; exact hlen9) HC.out hcl (by omega) hnc hlen).mono ?_); rintro e w9 ⟨rfl, hb9⟩
    go_wp2_with fail
    go_ret
    exact ⟨rfl, hb.trans (hb9.mono hb.size)⟩
theorem l_TokenJoinsAll (w : World) (A : Option Addr) (n c : Nat) (l : List TokL) (h : SlS TkAt 4 w A n c l) (hlen : (joinT (l.map TokL.text)).length ≤ 140737488355328) (_ : Tab w) (hmx : Mx w) : Calls Tryz.prog 3 #[.slice A n c] w (RetV w (.bool true)) := by
 have H := Lib.hid h
 have HM := Lib.hid hmx
 have HL := Lib.hid hlen
 clear h hmx hlen
 go_enter Tryz.func3, Tryz.ntmps3
 go_wp2_with fail
 (with_reducible refine (l18_awake w HM.out).mono ?_); rintro e1 w1 ⟨rfl, hb1⟩
 by_cases h3 : 300 < n
 ·have f3 : ((300 : Int) < (n : Int)) = True := eq_true (by omega)
  go_wp2_with fail
  (with_reducible refine (l18_awake w1 (HM.out.belw hb1)).mono ?_); rintro e1 w2 ⟨rfl, hb2⟩
  go_wp2_with fail
  go_ret
  exact ⟨rfl, hb1.trans (hb2.mono hb1.size)⟩
 ·have f3 : ((300 : Int) < (n : Int)) = False := eq_false (by omega)
  go_wp2_with fail
  (with_reducible refine (t_joinA w1 A n c l (H.out.tk_ hb1) (by omega) HL.out).mono ?_); rintro e1 w2 ⟨rfl, hb2⟩
  have q2 := hb1.trans (hb2.mono hb1.size)
  go_wp2_with fail
  (with_reducible refine (r_joinA w2 A n c l (H.out.tk_ q2) (by omega) HL.out).mono ?_); rintro e1 w3 ⟨rfl, hb3⟩
  have q3 := q2.trans (hb3.mono q2.size)
  go_wp2_with fail
  go_ret
  exact ⟨rfl, q3⟩
end
section
variable {H : Type} {enc : TypeId × Value → H} {W : World}
theorem spot_none {a : Addr} {v : Value} (h : W.cell? a = some v) : ∃ g o, a = ⟨g, o, none⟩ ∧ g < W.heap.size := by
  obtain ⟨g, o, s⟩ := a
  unfold World.cell? at h
  dsimp only at h
  split at h
  · rename_i c _ _ hb
    cases s with
    | none => exact ⟨g, o, rfl, lt_of_block hb⟩
    | some _ => simp at h
  · cases h
def Szd (t : TypeId) (d : DataW H) : Prop := ∀ n ∈ DataW.weights Tryz.prog t d, n ≤ reachBytes
theorem Szd.field {t : TypeId} {fs : Array Field} {xs : List (DataW H × List MemPlace)} (hu : Tryz.prog.underlying t = some (.struct fs)) (h : Szd t (.agg (xs.map (·.1)))) {i : Nat} {f : Field} {y : DataW H × List MemPlace} (hf : fs[i]? = some f) (hy : xs[i]? = some y) : Szd f.type y.1 := by
  intro n hn
  refine h n ?_
  rw [DataW.weights, hu]
  exact DataW.weights_mem_each (j := i) (t := f.type) (d := y.1) (by rw [List.getElem?_map, Array.getElem?_toList, hf]; rfl) (by rw [List.getElem?_map, hy]; rfl) n hn
theorem weights_mem_all {P : Program} {e : TypeId} : ∀ {ds : List (DataW H)} {d : DataW H}, d ∈ ds → ∀ n ∈ DataW.weights P e d, n ∈ DataW.weightsAll P e ds
  | x :: ds, d, hd, n, hn => by
    rw [DataW.weightsAll, List.mem_append]
    rcases List.mem_cons.1 hd with rfl | hd
    · exact .inl hn
    · exact .inr (weights_mem_all hd n hn)
  | [], _, hd, _, _ => by cases hd
theorem Szd.elem {t e : TypeId} {l sp : List (DataW H)} (hu : Tryz.prog.underlying t = some (.slice e)) (h : Szd t (.slice l sp)) {d : DataW H} (hd : d ∈ l) : Szd e d := by
  intro n hn
  refine h n ?_
  rw [DataW.weights, hu]
  exact List.mem_cons_of_mem _ (List.mem_append_left _ (weights_mem_all hd n hn))
theorem szd_of {ts : List TypeId} {ds : List (DataW H)} (h : (DataW.weightsEach Tryz.prog ts ds).all (· ≤ reachBytes) = true) {j : Nat} {t : TypeId} {d : DataW H} (ht : ts[j]? = some t) (hd : ds[j]? = some d) : Szd t d := fun n hn => by simpa using List.all_eq_true.1 h n (DataW.weights_mem_each ht hd n hn)
theorem add0 {g o i : Nat} : (⟨g, o, none⟩ : Addr).add i = ⟨g, o + i, none⟩ := add_plain g o i
theorem cells_int : Tryz.prog.cellsOf 3 = 1 := by kernel_rfl
theorem cells_str : Tryz.prog.cellsOf 9 = 1 := by kernel_rfl
theorem some_at {α : Type} {xs : List α} {i : Nat} (h : i < xs.length) : xs[i]? = some xs[i] := List.getElem?_eq_getElem h
theorem int_trod {v : Value} {fuel : Nat} {x : DataW H × List MemPlace} (ht : DataW.trod enc Tryz.prog W 0 (fun _ => true) true fuel 3 [v] = some x) : ∃ i : Int, v = .int .i64 i := by
  obtain ⟨i, hi, _⟩ := DataW.trod_int Tryz.underlying3 ht
  injection hi with hi _
  exact ⟨i, hi⟩
theorem str_trod {v : Value} {fuel : Nat} {x : DataW H × List MemPlace} (ht : DataW.trod enc Tryz.prog W 0 (fun _ => true) true fuel 9 [v] = some x) (hz : Szd 9 x.1) : ∃ t : List UInt8, v = strV t ∧ x.1 = .lit (.string t) := by
  obtain ⟨s, hs, hx, _⟩ := DataW.trod_string Tryz.underlying9 ht
  injection hs with hs _
  subst hs
  obtain ⟨t, rfl⟩ : ∃ t : List UInt8, s = ⟨t.toArray⟩ := ⟨s.data.toList, by simp⟩
  exact ⟨t, rfl, by rw [hx]⟩
theorem bulk_mem {d : DataW H} {l : List (DataW H)} (h : d ∈ l) : Rows.uptoBulk d ≤ Rows.uptoBulkAll l := by
  induction l with
  | nil => cases h
  | cons x r ih =>
    simp only [Rows.uptoBulkAll]
    rcases List.mem_cons.1 h with e | e
    · subst e; omega
    · have := ih e; omega
theorem tok_one (fuel : Nat) (cs : List Value) (y : DataW H × List MemPlace) (g o : Nat) (hl : cs.length = 4) (hc : ∀ i, i < 4 → W.cell? ⟨g, o + i, none⟩ = cs[i]?) (ht : DataW.trod enc Tryz.prog W 0 (fun _ => true) true fuel 38 cs = some y) (hz : Szd 38 y.1) : ∃ a, TkAt W g o a ∧ a.text.length + 1 ≤ Rows.uptoBulk y.1 := by
  match cs, hl with
  | [v0, v1, v2, v3], _ =>
    obtain ⟨xs, n, _, hx, _, hxl, hf⟩ := DataW.trod_struct Tryz.underlying38 ht
    rw [hx] at hz
    have f0 : DataW.trod enc Tryz.prog W 0 (fun _ => true) true n 3 (List.take (Tryz.prog.cellsOf 3) [v0, v1, v2, v3]) = xs[0]? := hf 0 _ rfl
    have f1 : DataW.trod enc Tryz.prog W 0 (fun _ => true) true n 9 (List.take (Tryz.prog.cellsOf 9) [v1, v2, v3]) = xs[1]? := hf 1 _ rfl
    have f2 : DataW.trod enc Tryz.prog W 0 (fun _ => true) true n 3 (List.take (Tryz.prog.cellsOf 3) [v2, v3]) = xs[2]? := hf 2 _ rfl
    have f3 : DataW.trod enc Tryz.prog W 0 (fun _ => true) true n 3 (List.take (Tryz.prog.cellsOf 3) [v3]) = xs[3]? := hf 3 _ rfl
    rw [cells_str] at f1
    rw [cells_int] at f0 f2 f3
    have hx0 : xs.length = 4 := hxl
    rw [some_at (show 0 < xs.length by omega)] at f0
    rw [some_at (show 1 < xs.length by omega)] at f1
    rw [some_at (show 2 < xs.length by omega)] at f2
    rw [some_at (show 3 < xs.length by omega)] at f3
    have z1 := hz.field Tryz.underlying38 (i := 1) rfl (some_at (show 1 < xs.length by omega))
    obtain ⟨i0, rfl⟩ := int_trod f0
    obtain ⟨t, rfl, hd⟩ := str_trod f1 z1
    obtain ⟨i2, rfl⟩ := int_trod f2
    obtain ⟨i3, rfl⟩ := int_trod f3
    have hb := bulk_mem (l := xs.map (·.1)) (List.mem_map_of_mem (List.mem_of_getElem? (some_at (show 1 < xs.length by omega))))
    rw [hd] at hb
    refine ⟨⟨i0, t, i2, i3⟩, ⟨hc 0 (by omega), hc 1 (by omega), hc 2 (by omega), hc 3 (by omega)⟩, ?_⟩
    rw [hx]
    simp only [Rows.uptoBulk] at hb ⊢
    show t.length + 1 ≤ _
    omega
theorem joinT_le : ∀ l : List (List UInt8), (joinT l).length ≤ (l.map fun x => x.length + 1).sum
  | [] => by simp [joinT]
  | [x] => by simp [joinT]
  | x :: y :: r => by
    have := joinT_le (y :: r)
    rw [joinT, List.map_cons, List.sum_cons, List.length_append, List.length_cons]
    omega
theorem bulk_sum {f : Nat → TokL} {D : Nat → DataW H} : ∀ xs : List Nat, (∀ i ∈ xs, (f i).text.length + 1 ≤ Rows.uptoBulk (D i)) → (((xs.map f).map TokL.text).map fun x => x.length + 1).sum ≤ Rows.uptoBulkAll (xs.map D)
  | [], _ => by simp
  | x :: xs, h => by
    have h1 := h x (by simp)
    have h2 := bulk_sum xs fun i hi => h i (by simp [hi])
    simp only [List.map_cons, List.sum_cons, Rows.uptoBulkAll]
    omega
theorem toks_open {v : Value} {fuel : Nat} {x : DataW H × List MemPlace} (h : DataW.trod enc Tryz.prog W 0 (fun _ => true) true fuel 22 [v] = some x) (hz : Szd 22 x.1) (hk : Rows.uptoBulk x.1 ≤ 1048576) :
    ∃ A n c l, v = .slice A n c ∧ SlS TkAt 4 W A n c l ∧ (joinT (l.map TokL.text)).length ≤ 1048576 := by
  have hs : Tryz.prog.cellsOf 38 = 4 := by kernel_rfl
  rcases Go.Deep.open_slice Tryz.underlying22 h with ⟨hv, _⟩ | ⟨a, len, cap, m, n, D, Pl, hv, _, hl, hm, hmm, hxe, hx⟩
  · injection hv with hv _
    exact ⟨none, 0, 0, [], hv, ⟨rfl, Nat.le_refl _, fun h => absurd h (by omega)⟩, by simp [joinT]⟩
  · injection hv with hv _
    subst hv
    rw [hxe] at hz hk
    have hmc : m = cap := by simpa using hmm
    subst hmc
    rw [hs] at hx
    rcases Nat.eq_zero_or_pos len with h0 | h0
    · subst h0
      exact ⟨some a, 0, m, [], rfl, ⟨rfl, Nat.zero_le _, fun h => absurd h (by omega)⟩, by simp [joinT]⟩
    · obtain ⟨cs0, hc0, _⟩ := hx 0 (by omega)
      obtain ⟨_, hl0, hce⟩ := World.cells?_some hc0
      have h00 := hce 0 (by omega)
      rw [some_at (show 0 < cs0.length by omega)] at h00
      have e0 : (a.add (0 * 4)).add 0 = a := by simp [Addr.add]
      rw [e0] at h00
      obtain ⟨g, o, rfl, hg⟩ := spot_none h00
      obtain ⟨f, hf⟩ := Go.Deep.choose_lt (n := len) (p := fun i a => TkAt W g (o + i * 4) a ∧ a.text.length + 1 ≤ Rows.uptoBulk (D i)) (fun i hi => by
        obtain ⟨cs, h1, h2⟩ := hx i (by omega)
        obtain ⟨_, h3, h4⟩ := World.cells?_some h1
        refine tok_one n cs _ g (o + i * 4) h3 (fun j hj => ?_) h2 (hz.elem Tryz.underlying22 (List.mem_map.2 ⟨i, List.mem_range.2 hi, rfl⟩))
        rw [← h4 j hj, add0, add0])
      refine ⟨_, len, m, (List.range len).map f, rfl, ⟨by simp, hl, fun _ => ⟨g, o, rfl, hg, fun i a ha => ?_⟩⟩, ?_⟩
      · rw [List.getElem?_map] at ha
        rcases Nat.lt_or_ge i len with hi | hi
        · rw [List.getElem?_range hi] at ha
          injection ha with ha
          subst ha
          exact (hf i hi).1
        · rw [List.getElem?_eq_none (by simpa using hi)] at ha
          cases ha
      · have h5 := joinT_le (((List.range len).map f).map TokL.text)
        have h6 := bulk_sum (f := f) (D := D) (List.range len) fun i hi => (hf i (List.mem_range.1 hi)).2
        simp only [Rows.uptoBulk] at hk
        omega
variable {base : Nat}
theorem tokens_openU {v : Value} {d : DataW H} {p : List MemPlace} (hok : Value.okWide Tryz.prog W .any base 22 v) (h : DataW.Trod enc Tryz.prog W 0 (fun _ => true) true 22 v d p) (hu : Szd 22 d ∧ Rows.uptoBulk d ≤ 1048576) :
    ∃ A n c l, v = .slice A n c ∧ SlS TkAt 4 W A n c l ∧ (joinT (l.map TokL.text)).length ≤ 140737488355328 := by
  have hok2 := hok
  unfold Value.okWide at hok2
  rw [Tryz.underlying22] at hok2
  obtain ⟨fuel, h⟩ := h
  have hcells : v.cells.toList = [v] := by
    unfold Cell.okWide at hok2
    rw [Tryz.underlying22] at hok2
    cases v <;> first | rfl | (unfold Cell.ok at hok2; rw [Tryz.underlying22] at hok2; exact hok2.elim)
  rw [hcells] at h
  obtain ⟨A, n, c, l, hv, hs, hj⟩ := toks_open h hu.1 hu.2
  exact ⟨A, n, c, l, hv, hs, by omega⟩
theorem bulk_arg {l : List (DataW H)} (hk : Rows.uptoSmall H l = true) {d : DataW H} (hd : d ∈ l) : Rows.uptoBulk d ≤ 1048576 := Nat.le_trans (bulk_mem hd) (of_decide_eq_true hk)
end
end Go.Proofs.YtjanfdkbficmbaaGreatDoor

/- TokenJoinsAll (second form): Join returns the texts of any tokens, with a space between each two, as the reference does; for every input of bulk at most 1048576 the law returns true. The listed library variables are tied to the program text. -/
namespace Go.Proofs.YtjanfdkbficmbaaGreatDoor
open Go Go.RowKit Bn Go.ChangeShapes Go.WideShapes Go.ChangeAt
theorem joinsall_contract (H : Type) (enc : TypeId × Value → H) (W : World) (base : Nat) (args : Array Value) (ds gs : List (DataW H)) (before : List MemPlace)
    (hval0 : ∀ (j : Nat) t v, Tryz.f3.params[j]? = some t → args[j]? = some v → Value.okWide Tryz.prog W .any base t v)
    (hW : DataW.Whole enc Tryz.prog Tryz.f3.params.toList Rows.tokenJoinsAllSpec.vars false W args.toList ds gs before) (hL : laidMetH Tryz.prog Rows.tokenJoinsAllUptoRow.laid W) (hwt : (DataW.weightsEach Tryz.prog (Tryz.f3.params.toList ++ (OpenSpec.ofChange Rows.tokenJoinsAllSpec).bare.plain.varTypes Tryz.prog) (ds ++ gs)).all (· ≤ reachBytes) = true) (hsm : Rows.uptoSmall H (ds ++ gs) = true) (hsh : W.ShapedOpen Tryz.prog) :
    Calls Tryz.prog 3 args W fun e W' => ∃ v, e = .returned v ∧ Rows.tokenJoinsAllSpec.post enc Tryz.prog Tryz.f3 false true false false W args v W' := by
  have hval : ∀ (j : Nat) t v, Tryz.f3.params[j]? = some t → args[j]? = some v → Value.okWide Tryz.prog W .any base t v := hval0
  have htab : Tab W := tab_of_laid hL
  have hmx : Mx W := mx_of_shaped hsh
  have hW' := hW
  obtain ⟨p, q, hA0, hV, rfl, hfz, hnd⟩ := hW
  have hA : DataW.TrodAll enc Tryz.prog W 0 (fun _ => true) true Tryz.f3.params.toList args.toList ds p := hA0
  rw [Tryz.params3] at hA hval
  obtain ⟨v0, d0, rfl, rfl, h0⟩ := trodAll_one hA
  obtain ⟨rfl, rfl⟩ := trodVars_none hV
  obtain ⟨A, n, c, l, rfl, H, J⟩ := tokens_openU (hval 0 _ v0 rfl rfl) h0 ⟨szd_of hwt (j := 0) rfl rfl, bulk_arg hsm (by simp)⟩
  refine (l_TokenJoinsAll W A n c l H J htab hmx).mono fun e W' ⟨he, hb⟩ => ?_
  subst he
  exact ⟨_, rfl, law_post laid_out Tryz.underlying4 hW' rfl rfl (by kernel_rfl) rfl rfl rfl hb⟩
theorem joinsall_lifted (os : Os) (started : os.Started) (H : Type) (enc : TypeId × Value → H) (F : Stop.Interp) :
    ReturnsInHanded {} Tryz.checked os 3 .any ((Rows.OpenSpec.upto Rows.tokenJoinsAllSpec).preRow enc Tryz.prog Tryz.f3 Rows.tokenJoinsAllUptoRow.domain false Rows.tokenJoinsAllUptoRow.laid) (((Rows.OpenSpec.upto Rows.tokenJoinsAllSpec).at F).post enc Tryz.prog Tryz.f3 false true false false) := by
  have hx : DataW.whole enc Tryz.prog ((laidWorld os).forCall (fun _ _ => 0) ⟨#[], #[.slice none 0 0], []⟩).memory Tryz.f3.params.toList Rows.tokenJoinsAllSpec.vars false (#[.slice none 0 0] : Array Value).toList 8 = some ([.nil], [], []) := by kernel_rfl
  have hl : laidMet Tryz.prog Rows.tokenJoinsAllUptoRow.laid ((laidWorld os).forCall (fun _ _ => 0) ⟨#[], #[.slice none 0 0], []⟩).memory := laidMet_of_run' 8 (by kernel_rfl) (by kernel_rfl)
  refine returnsInHanded_of_row (C := Tryz.checked) (s := Rows.OpenSpec.upto Rows.tokenJoinsAllSpec) own_knob started (by kernel_rfl) Tryz.func3
    (witness_row_at (enc := enc) (C := Tryz.checked) false (laidWorld os) #[.slice none 0 0] rfl (by kernel_rfl) (by kernel_rfl) (by kernel_rfl)
      (OpenSpec.preRow_of_cond 8 hx (by kernel_rfl) (fun k hk => by cases hk; kernel_rfl) (by kernel_rfl) hl)) ?_
  intro W base args ds gs before hval hW _ hcond hwt hL hsh _
  exact joinsall_contract H enc W base args ds gs before hval hW hL hwt (hcond _ rfl) hsh
theorem joinsall_j2 : (Rows.tokenJoinsAllUptoRow.inPlace == Tryz.pinned.checked.prog.inPlace 3) = true := by kernel_rfl
theorem joinsall_j3 : (Rows.tokenJoinsAllUptoRow.unfollowed == Tryz.pinned.checked.prog.unfollowed 3) = true := by kernel_rfl
theorem joinsall_j4 : (Rows.tokenJoinsAllUptoRow.recurses == Tryz.pinned.checked.prog.recurses 3) = true := by kernel_rfl
theorem joinsall_j5 : (Rows.tokenJoinsAllUptoRow.named == Tryz.pinned.checked.prog.varsNamed 3) = true := by kernel_rfl
theorem joinsall_joined : joinedFacts Tryz.pinned.checked.prog 3 Tryz.f3 (Rows.OpenSpec.upto Rows.tokenJoinsAllSpec).bare Rows.tokenJoinsAllUptoRow = true := joined_parts (by kernel_rfl) joinsall_j2 joinsall_j3 joinsall_j4 joinsall_j5 (by kernel_rfl)
theorem joinsall_inst : Tryz.f3.isInstance Tryz.pinned.checked.prog Rows.tokenJoinsAllUptoRow.origin Rows.tokenJoinsAllUptoRow.targs := of_decide_eq_true (by kernel_rfl)
theorem joinsall_said : Rows.TokenJoinsAllUptoSaid :=
  OpenClaim.holds_of_cond 3 Tryz.f3 rfl rfl rfl rfl rfl rfl rfl ⟨rfl, rfl, rfl, rfl, rfl⟩ rfl rfl rfl rfl rfl (by kernel_rfl) Tryz.func3 joinsall_joined
    joinsall_inst (by unfold Func.isWrapper; first | (rw [if_pos (by decide +kernel)]; kernel_rfl) | (rw [if_neg (by decide +kernel)]; exact ⟨rfl, rfl⟩))
    (fun os started H enc _ F => by rw [OpenClaim.pre_eq_preRow]; exact joinsall_lifted os started H enc F)
theorem joinsall_plain (f : FuncId) (fn : Func) (hf : Tryz.pinned.checked.prog.funcNamed "linkwork/linkworklaw18.TokenJoinsAll" = some f) (hfn : Tryz.pinned.checked.prog.funcs[f]? = some fn) :
    true = Tryz.pinned.checked.prog.looks [] ∧ ∀ (j : Nat) t, fn.params[j]? = some t → Tryz.pinned.checked.prog.wantsStandIn t = false := by
  obtain rfl : f = 3 := Option.some.inj ((show Tryz.prog.funcNamed "linkwork/linkworklaw18.TokenJoinsAll" = some 3 by kernel_rfl).symm.trans hf) |>.symm
  obtain rfl : fn = Tryz.f3 := (Option.some.inj (Tryz.func3.symm.trans hfn)).symm
  refine ⟨by kernel_rfl, fun j t ht => ?_⟩
  rw [Tryz.params3] at ht
  have hm : t ∈ [22] := by
    have := Array.mem_of_getElem? ht
    simp at this ⊢
    first
      | exact this
      | exact .inl this
  have hall : ([22].all fun u => !Tryz.prog.wantsStandIn u) = true := by kernel_rfl
  exact (show Tryz.prog.wantsStandIn t = false by simpa using List.all_eq_true.1 hall t hm)
theorem joinsall_holds : Rows.TokenJoinsAllUptoCardSaid :=
  Claim7.holds_tied_plain_at .later [] _ _ _ _ joinsall_said (fun _ h => by cases h) (by kernel_rfl) (fun _ h => by cases h) tokenJoinsAllUpto_row_tie rfl ⟨rfl, rfl⟩ (by kernel_rfl) rfl joinsall_plain (by kernel_rfl)
end Go.Proofs.YtjanfdkbficmbaaGreatDoor
