/- Part A3: lemmas and walks that the claim rests on. No claim is made here. -/
import Derived.BigQuiet
import Derived.Deep.RegionHeld3
import Derived.Deep.DrawnRows
import Derived.Test.YtkehcfclggmblaaDoorCards
import Derived.Test.YtkehcfclggmblaaDoorTie
import Derived.ProofKit
import Derived.WalkKit
import Derived.OpenShut
import Derived.Deep.DeepHandedRow
import Derived.Lib.LaidTab
import Derived.Test.YtkehcfclggmblaaDoorA2
set_option linter.unusedVariables false
/- Walks: the reference's times, Mul. -/
namespace Go.Proofs.YtkehcfclggmblaaDoor
open Go Go.RowKit Bn
attribute [local go_sem ↓] Go.wp_at_zero Go.wp_at_succ
set_option maxHeartbeats 1000000 in
/-- linkworkref01.times -/
theorem r_times_c (w : World) (A : Option Addr) (n c : Nat) (l : List Nat) (wa : Wd w A n c l) (hn : n ≤ 1099511627776) (A' : Option Addr) (n' c' : Nat) (l' : List Nat) (wb : Wd w A' n' c' l') (hn' : n' ≤ 1099511627776) :
    Calls Tryd.prog 57 #[.slice A n c, .slice A' n' c'] w (RetL w (digs (val l * val l'))) := by
  have HL := Lib.hid wa.2.1
  have HL' := Lib.hid wb.2.1
  go_enter Tryd.func57, Tryd.ntmps57
  go_wp2_with (at_make; refine wpList_make_words _ rfl _ _ rfl _ _ _ _ (n + n') rfl rfl (by omega) (by omega) (by omega) ?_)
  go_loopw [18] (fun iv wr => ∃ (i : Nat) (L : List Nat), i ≤ n ∧ iv = .int .i64 (i : Nat) ∧ L.length = n + n' ∧ TimesO l l' L (n + n') n' i ∧ Blk wr w.heap.size 53 (cellsOf L) ∧ Below w.heap.size w wr) (fun iv _ => n - (intOf iv).toNat)
  case atStart =>
    refine ⟨0, List.replicate (n + n') 0, Nat.zero_le _, rfl, by simp, ⟨by intro x hx; rw [List.eq_of_mem_replicate hx]; omega, fun j _ => ?_, ?_⟩, Blk.new _ _ _, (Below.refl _ _).alloc (Nat.le_refl _) _⟩
    · unfold wd; by_cases hj : j < n + n' <;> simp [List.getD, hj]
    · rw [Sm]
      have : ∀ m, Sm (wd (List.replicate (n + n') 0)) m = 0 := by
        intro m
        induction m with
        | zero => rfl
        | succ m ih =>
          rw [Sm, ih]
          unfold wd; by_cases hj : m < n + n' <;> simp [List.getD, hj]
      rw [this]; simp
  case round =>
    obtain ⟨i, L, hi, rfl, hLM, hI, hB, hbel⟩ := hrel
    have hKp := Lib.hid ((Kp.refl w).below hbel)
    have HI := Lib.hid hI
    have HB := Lib.hid hB
    have HLM := Lib.hid hLM
    clear hI hB hLM
    by_cases hkM : i < n
    · obtain ⟨x, hx⟩ : ∃ x, wd l i = x := ⟨_, rfl⟩
      have hx1 : x < 4294967296 := by rw [← hx]; exact wa.lt i
      have HX := Lib.hid hx
      clear hx
      go_wp2_with fail
      obtain ⟨wo, hwo⟩ : ∃ wo : World, wo = wr := ⟨_, rfl⟩
      have HWO := Lib.hid hwo
      clear hwo
      go_loopw [7, 23] (fun cv kv w2 => ∃ (k cr : Nat) (L2 : List Nat), k ≤ n' ∧ kv = .int .i64 (k : Nat) ∧ cv = .int .u64 (cr : Nat) ∧ cr < 4294967296 ∧ L2.length = n + n' ∧ TimesN l l' L2 (n + n') n' i x k cr ∧ Blk w2 w.heap.size 53 (cellsOf L2) ∧ Below w.heap.size w w2) (fun _ kv _ => n' - (intOf kv).toNat)
      case atStart => exact ⟨0, 0, L, Nat.zero_le _, rfl, rfl, by omega, HLM.out, ⟨HI.out.1, HI.out.2.1, by rw [HI.out.2.2]; simp [Sm]⟩, HB.out, hbel⟩
      case round =>
        obtain ⟨k, cr, L2, hk, rfl, rfl, hcr, hLM2, hI2, hB2, hbel2⟩ := hrel
        have hKp2 := Lib.hid ((Kp.refl w).below hbel2)
        have HI2 := Lib.hid hI2
        have HB2 := Lib.hid hB2
        have HLM2 := Lib.hid hLM2
        clear hI2 hB2 hLM2
        by_cases hkk : k < n'
        · obtain ⟨g2, o2, rfl, hgl2, hc2⟩ := (wb.keep hKp2.out).at2 (by omega)
          obtain ⟨g, o, rfl, hgl, hc1⟩ := (wa.keep hKp2.out).at2 (by omega)
          have hcx := hc1 i hkM
          rw [HX.out] at hcx
          clear hc1
          have hcy := hc2 k hkk
          obtain ⟨y, z, hy, hz⟩ : ∃ y z, wd l' k = y ∧ wd L2 (i + k) = z := ⟨_, _, rfl, rfl⟩
          have hy1 : y < 4294967296 := by rw [← hy]; exact wb.lt k
          have hz1 : z < 4294967296 := by rw [← hz]; exact wd_lt HI2.out.1 _
          rw [hy] at hcy
          have hck := HB2.out.cell (i + k)
          rw [cellsOf_get (by rw [HLM2.out]; omega), hz] at hck
          have hfk := HB2.out.frozen (i + k)
          have HY := Lib.hid hy
          have HZ := Lib.hid hz
          clear hy hz hc2
          obtain ⟨p, hp⟩ : ∃ d, IntKind.u64.wrap ((x : Int) * (y : Int)) = d := ⟨_, rfl⟩
          obtain ⟨q, hq⟩ : ∃ d, IntKind.u64.wrap (p + (z : Int)) = d := ⟨_, rfl⟩
          obtain ⟨s, hs⟩ : ∃ d, IntKind.u64.wrap (q + (cr : Int)) = d := ⟨_, rfl⟩
          have HD := Lib.hid (times_word hx1 hy1 hz1 hcr hp hq (show IntKind.u64.wrap ((cr : Int) + q) = s by rw [Int.add_comm]; exact hs))
          go_wp2
          go_quiet (fail)
          go_wp2
          obtain ⟨es, hs2⟩ := HD.out
          clear hp hq hs
          go_roundw
          case rel =>
            refine ⟨k + 1, (cr + x * y + z) / 4294967296, L2.set (i + k) ((cr + x * y + z) % 4294967296), by omega, by go_num, by rw [es]; go_num, hs2, by rw [List.length_set]; exact HLM2.out, ⟨wds_set HI2.out.1 _ (Nat.mod_lt _ (by omega)), ?_, ?_⟩, ?_, (below_drewN hbel2 _).setCell (Nat.le_refl _) _⟩
            · intro j hj; rw [wd_set, if_neg (by omega)]; exact HI2.out.2.1 j hj
            · have hm := Sm_set_mid L2 (i + k) ((cr + x * y + z) % 4294967296) (n + n') (by rw [HLM2.out]; omega) (by omega)
              rw [HZ.out] at hm
              have ht := times_step (o := z) (x := x) (y := y) (Sb := Sm (wd l') k) (Pi := 4294967296 ^ i) (Pk := 4294967296 ^ k) HI2.out.2.2 (by rw [Nat.pow_add]) hm
              rw [← Nat.add_assoc, Nat.pow_succ, Sm, HY.out]
              exact ht
            · exact (HB2.out.below (below_drewN (brefl _) _) HB2.out.lt).setW (i + k) _ _ (by rw [es]; omega)
          case measure => simp [intOf]; omega
        · have hk2 : k = n' := by omega
          have HK2 := Lib.hid hk2
          have hck := HB2.out.cell (i + n')
          have hz : wd L2 (i + n') = 0 := HI2.out.2.1 _ (by omega)
          rw [cellsOf_get (by rw [HLM2.out]; omega), hz] at hck
          have hfk := HB2.out.frozen (i + n')
          have hge : n' ≤ k := by omega
          clear hk2 hkk hz
          go_wp2
          go_roundw
          case rel =>
            refine ⟨i + 1, L2.set (i + n') cr, by omega, by go_num, by rw [List.length_set]; exact HLM2.out, ⟨wds_set HI2.out.1 _ hcr, ?_, ?_⟩, ?_, hbel2.setCell (Nat.le_refl _) _⟩
            · intro j hj; rw [wd_set, if_neg (by omega)]; exact HI2.out.2.1 j (by omega)
            · have hm := Sm_set_mid L2 (i + n') cr (n + n') (by rw [HLM2.out]; omega) (by omega)
              rw [HI2.out.2.1 _ (by omega), Nat.zero_mul, Nat.add_zero] at hm
              have h2 := HI2.out.2.2
              rw [HK2.out, Sm_ge l' (by rw [← HL'.out]; exact Nat.le_refl _)] at h2
              rw [hm, h2, Sm, HX.out, Nat.add_mul]
              congr 1
              rw [Nat.mul_assoc, Nat.mul_comm (val l'), ← Nat.mul_assoc]
            · exact HB2.out.setW (i + n') _ _ rfl
          case measure => simp [intOf]; omega
    · have hkk : i = n := by omega
      subst hkk
      have hv2 : val L = val l * val l' := by
        have h1 := HI.out.2.2
        rw [Sm_ge L (by rw [HLM.out]; exact Nat.le_refl _), Sm_ge l (by rw [← HL.out]; omega)] at h1
        exact h1
      have HV2 := Lib.hid hv2
      clear hv2
      go_wp2_with fail
      refine (r_trim_c _ _ (i + n') (i + n') L ?_ ?_).mono ?_
      · exact HB.out.wdN HI.out.1 HLM.out
      · omega
      rintro e w1 ⟨A1, n1, c1, rfl, h1, hb1⟩
      go_wp2
      go_ret
      rw [HV2.out] at h1
      exact ⟨_, _, _, rfl, h1, hbel.trans (hb1.mono hbel.size)⟩
set_option maxHeartbeats 2000000 in
/-- integer.Mul -/
theorem r_mul_C (w : World) (b : Bool) (A : Option Addr) (n c : Nat) (l : List Nat) (wa : Wd w A n c l) (hn : n ≤ 500000000000) (b' : Bool) (A' : Option Addr) (n' c' : Nat) (l' : List Nat) (wb : Wd w A' n' c' l') (hn' : n' ≤ 500000000000) :
    Calls Tryd.prog 37 #[.agg #[.bool b, .slice A n c], .agg #[.bool b', .slice A' n' c']] w (RetW w (wh (WD.z ⟨b, l⟩ * WD.z ⟨b', l'⟩))) := by
  have HL := Lib.hid wa.2.1
  have HL' := Lib.hid wb.2.1
  go_enter Tryd.func37, Tryd.ntmps37
  go_wp2_with fail
  have b0 : Below w.heap.size w (((w.alloc (.cells #[.bool b, .slice A n c] 24)).alloc (.cells #[.bool b', .slice A' n' c'] 24)).alloc (.cells #[.bool false, .slice none 0 0] 24)) := ((((Below.refl _ _).alloc (Nat.le_refl _) _).alloc (by simp) _).alloc (by simp; omega) _)
  generalize hW0 : (((w.alloc (.cells #[.bool b, .slice A n c] 24)).alloc (.cells #[.bool b', .slice A' n' c'] 24)).alloc (.cells #[.bool false, .slice none 0 0] 24)) = W0 at b0 ⊢
  have c00 : W0.cell? ⟨w.heap.size, 0, none⟩ = some (.bool b) := by subst hW0; simp [go_sem]
  have f00 : W0.frozen? ⟨w.heap.size, 0, none⟩ = false := by subst hW0; simp [go_sem]
  have c01 : W0.cell? ⟨w.heap.size, 1, none⟩ = some (.slice A n c) := by subst hW0; simp [go_sem]
  have f01 : W0.frozen? ⟨w.heap.size, 1, none⟩ = false := by subst hW0; simp [go_sem]
  have c10 : W0.cell? ⟨w.heap.size + 1, 0, none⟩ = some (.bool b') := by subst hW0; simp [go_sem]
  have f10 : W0.frozen? ⟨w.heap.size + 1, 0, none⟩ = false := by subst hW0; simp [go_sem]
  have c11 : W0.cell? ⟨w.heap.size + 1, 1, none⟩ = some (.slice A' n' c') := by subst hW0; simp [go_sem]
  have f11 : W0.frozen? ⟨w.heap.size + 1, 1, none⟩ = false := by subst hW0; simp [go_sem]
  have c20 : W0.cell? ⟨w.heap.size + 1 + 1, 0, none⟩ = some (.bool false) := by subst hW0; simp [go_sem]
  have f20 : W0.frozen? ⟨w.heap.size + 1 + 1, 0, none⟩ = false := by subst hW0; simp [go_sem]
  have c21 : W0.cell? ⟨w.heap.size + 1 + 1, 1, none⟩ = some (.slice none 0 0) := by subst hW0; simp [go_sem]
  have f21 : W0.frozen? ⟨w.heap.size + 1 + 1, 1, none⟩ = false := by subst hW0; simp [go_sem]
  have x0 : Box W0 (w.heap.size) 24 := by subst hW0; exact ((boxAt _ _ _ (by simp)).alloc _).alloc _
  have x1 : Box W0 (w.heap.size + 1) 24 := by subst hW0; exact (boxAt _ _ _ (by simp)).alloc _
  have x2 : Box W0 (w.heap.size + 1 + 1) 24 := by subst hW0; exact boxAt _ _ _ (by simp)
  have hm0 : Made (w.heap.size + 1 + 1) (w.heap.size + 1 + 1 + 1) 2 W0 := by subst hW0; exact made1 (by simp)
  have hs0 : w.heap.size + 1 + 1 + 1 ≤ W0.heap.size := by subst hW0; simp
  clear hW0
  have wa := wa.belw b0
  have wb := wb.belw b0
  have r0 : Below W0.heap.size W0 W0 := brefl _
  have hRB : w.heap.size + 1 + 1 ≤ w.heap.size + 1 + 1 + 1 := by omega
  go_region_held3 (fun w' => Sees (w.heap.size + 1 + 1) W0 w') (first | exact Sees.of (Nat.le_trans hRB hs0) (by assumption) | exact Sees.of (Nat.le_trans hRB hs0) (below_drewN (by assumption) _) | exact (Sees.set (Sees.of (Nat.le_trans hRB hs0) (by assumption)) (by simp)) | exact (Sees.set (Sees.set (Sees.of (Nat.le_trans hRB hs0) (by assumption)) (by simp)) (by simp)))
    (first
      | (go_at_call 51; (with_reducible refine (r_neg_c _ b A n c l ?_ ?_).mono ?_); (exact wa); (omega); rintro e w1 ⟨rfl, hb1⟩; replace hb1 := bnext (below_drewN (brefl _) 1) hb1; have r1 := bnext r0 hb1; replace wa := wa.belw hb1; replace wb := wb.belw hb1)
      | (go_at_call 51; (with_reducible refine (r_neg_c _ b' A' n' c' l' ?_ ?_).mono ?_); (exact wb); (omega); rintro e w2 ⟨rfl, hb2⟩; have r2 := bnext r1 hb2; replace wa := wa.belw hb2; replace wb := wb.belw hb2)
      | (go_at_call 50; (with_reducible refine (r_mag_c _ b A n c l ?_ ?_).mono ?_); (exact wa); (omega); rintro e w3 ⟨A1, n1, c1, rfl, h1, hb3⟩; have r3 := bnext r2 hb3; replace wa := wa.belw hb3; replace wb := wb.belw hb3)
      | (go_at_call 50; (with_reducible refine (r_mag_c _ b' A' n' c' l' ?_ ?_).mono ?_); (exact wb); (omega); rintro e w4 ⟨A2, n2, c2, rfl, h2, hb4⟩; have r4 := bnext r3 hb4; replace wa := wa.belw hb4; replace wb := wb.belw hb4; replace h1 := h1.belw hb4)
      | (go_at_call 57; (with_reducible refine (r_times_c _ A1 n1 c1 (WD.m ⟨b, l⟩) ?_ ?_ A2 n2 c2 (WD.m ⟨b', l'⟩) ?_ ?_).mono ?_); (exact h1); (exact Nat.le_trans (h1.m_len (by rw [← HL.out]; exact hn)) (by decide)); (exact h2); (exact Nat.le_trans (h2.m_len (by rw [← HL'.out]; exact hn')) (by decide)); rintro e w5 ⟨A3, n3, c3, rfl, h3, hb5⟩; have r5 := bnext r4 hb5; replace wa := wa.belw hb5; replace wb := wb.belw hb5; replace h1 := h1.belw hb5; replace h2 := h2.belw hb5)
      | (go_at_call 54; (with_reducible refine (r_form_e _ (!(WD.s ⟨b, l⟩ == WD.s ⟨b', l'⟩)) A3 n3 c3 (digs (val (WD.m ⟨b, l⟩) * val (WD.m ⟨b', l'⟩))) (WD.z ⟨b, l⟩ * WD.z ⟨b', l'⟩) ?_ ?_ ?_).mono ?_); (exact h3); (rw [h3.2.1]; exact times_len h1 h2 (Nat.le_trans (Nat.add_le_add (h1.m_len (by rw [← HL.out]; exact hn)) (h2.m_len (by rw [← HL'.out]; exact hn'))) (by decide))); (rw [val_digs]; exact (z_mul _ _).symm); rintro e w6 ⟨A4, n4, c4, rfl, h4, hb6⟩; have r6 := bnext r5 hb6; replace wa := wa.belw hb6; replace wb := wb.belw hb6; replace h1 := h1.belw hb6; replace h2 := h2.belw hb6; replace h3 := h3.belw hb6; obtain ⟨⟨sc, sf⟩, sr, sz⟩ := Seen.of (by omega) hs0 hm0 r6))
  clear hRB
  go_wp2_with fail
  refine bodyPost_ret (v := .agg #[.bool _, .slice A4 n4 c4]) (by simp [results, Tryd.results37, go_sem, sr]; rfl) rfl ?_
  have x := x2.below r6
  refine retW ?_ ?_ ?_
  · rfl
  · exact h4.keep (kp2 x (by decide) _ _ _ _)
  · exact ((b0.trans (r6.mono b0.size)).setCell (by dsimp only; omega) _).setCell (by dsimp only; omega) _
end Go.Proofs.YtkehcfclggmblaaDoor

/- Walks: the reference's Sign, Sub, Cmp; its contracts as values. -/
namespace Go.Proofs.YtkehcfclggmblaaDoor
open Go Go.RowKit Bn
attribute [local go_sem ↓] Go.wp_at_zero Go.wp_at_succ
set_option maxHeartbeats 1000000 in
theorem r_sign_c (w : World) (b : Bool) (A : Option Addr) (n c : Nat) (l : List Nat) (wa : Wd w A n c l) (hn : n ≤ 1099511627000) :
    Calls Tryd.prog 26 #[.agg #[.bool b, .slice A n c]] w (RetV w (.int .i64 (WD.z ⟨b, l⟩).sign)) := by
  have hz := WD.z_eq ⟨b, l⟩
  have hcan : Canon (WD.m ⟨b, l⟩) := WD.canon_m wa.1
  by_cases hm : WD.m ⟨b, l⟩ = []
  · have HE := Lib.hid (show (WD.z ⟨b, l⟩).sign = 0 by rw [hz, hm]; cases WD.s ⟨b, l⟩ <;> rfl)
    have HM := Lib.hid hm
    clear hz hm hcan
    go_enter Tryd.func26, Tryd.ntmps26
    go_wp2_with fail
    (with_reducible refine (r_mag_c _ b A n c l ?_ ?_).mono ?_); (exact wa.keep ((Kp.refl _).alloc _)); (omega); rintro e w1 ⟨A1, n1, c1, rfl, h1, hb⟩
    have hn1 : n1 = 0 := by rw [h1.2.1, HM.out]; rfl
    subst hn1
    go_wp2_with fail
    go_ret
    exact retI HE.out.symm (((Below.refl _ _).alloc (Nat.le_refl _) _).trans (hb.mono (by simp)))
  · obtain ⟨s, hs⟩ : ∃ s, WD.s ⟨b, l⟩ = s := ⟨_, rfl⟩
    have hv : val (WD.m ⟨b, l⟩) ≠ 0 := fun e => hm ((val_eq_zero hcan).1 e)
    have HE := Lib.hid (show (WD.z ⟨b, l⟩).sign = if s then -1 else 1 by
      rw [hz, hs]
      cases s
      · simp only [sgn]; exact Int.sign_eq_one_of_pos (by simp; omega)
      · simp only [sgn]; exact Int.sign_eq_neg_one_of_neg (by simp; omega))
    have HM := Lib.hid hm
    have HS := Lib.hid hs
    clear hz hm hcan hs hv
    go_enter Tryd.func26, Tryd.ntmps26
    go_wp2_with fail
    (with_reducible refine (r_mag_c _ b A n c l ?_ ?_).mono ?_); (exact wa.keep ((Kp.refl _).alloc _)); (omega); rintro e w1 ⟨A1, n1, c1, rfl, h1, hb⟩
    have hn1 : n1 ≠ 0 := fun e => HM.out (List.eq_nil_of_length_eq_zero (by rw [← h1.2.1, e]))
    have e0 : ((n1 : Int) == 0) = false := by simp; omega
    have q : Below w.heap.size w w1 := ((Below.refl _ _).alloc (Nat.le_refl _) _).trans (hb.mono (by simp))
    have x : Blk w1 w.heap.size 24 #[.bool b, .slice A n c] := (blkAt w _ _ rfl).below hb (by simp)
    obtain ⟨cx0, cx1⟩ := x.c2
    clear hb hn1
    go_wp2_with fail
    (with_reducible refine (r_neg_c _ b A n c l ?_ ?_).mono ?_); (exact wa.belw q); (omega); rintro e w2 ⟨rfl, hb2⟩
    rw [HS.out]
    cases s
    all_goals
      go_wp2_with fail
      go_ret
      exact retI HE.out.symm (q.trans (hb2.mono q.size))
theorem cmpI_sub (x y : Int) : (x + -y).sign = cmpI x y := by
  unfold cmpI
  rcases Int.lt_trichotomy x y with h | h | h
  · rw [if_pos h]; exact Int.sign_eq_neg_one_of_neg (by omega)
  · subst h; simp [show x + -x = 0 by omega]
  · rw [if_neg (by omega), if_neg (by omega)]; exact Int.sign_eq_one_of_pos (by omega)
section
variable (w : World) (b : Bool) (A : Option Addr) (n c : Nat) (z : Int) (k : Nat) (h : IZ w b A n c z k) (b' : Bool) (A' : Option Addr) (n' c' : Nat) (z' : Int) (k' : Nat) (h' : IZ w b' A' n' c' z' k')
include h
theorem r01_neg (hk : k ≤ 1000000000) : Calls Tryd.prog 34 #[.agg #[.bool b, .slice A n c]] w (RetI w (-z) k) := by
  have hz := h.lt
  obtain ⟨l, h1, rfl, h3⟩ := h
  exact (r_neg_C w b A n c l h1 (by omega)).mono fun _ _ r => r.i (by omega)
theorem r01_sign (hk : k ≤ 1000000000) : Calls Tryd.prog 26 #[.agg #[.bool b, .slice A n c]] w (RetV w (.int .i64 z.sign)) := by
  obtain ⟨l, h1, rfl, h3⟩ := h
  exact r_sign_c w b A n c l h1 (by omega)
include h'
theorem r01_add (hk : k + k' ≤ 1000000000) : Calls Tryd.prog 35 #[.agg #[.bool b, .slice A n c], .agg #[.bool b', .slice A' n' c']] w (RetI w (z + z') (k + k' + 1)) := by
  have hz := h.mono (Nat.le_add_right k k') |>.lt
  have hz' := h'.mono (Nat.le_add_left k' k) |>.lt
  obtain ⟨l, h1, rfl, h3⟩ := h
  obtain ⟨l', h1', rfl, h3'⟩ := h'
  exact (r_add_c w b A n c l h1 (by omega) b' A' n' c' l' h1' (by omega)).mono fun _ _ r => r.i (natAbs_add_lt hz hz')
end
theorem r01_of (w : World) (i : Int) (k : Nat) (h0 : -9223372036854775808 ≤ i) (h1 : i < 9223372036854775808) (hs : i.natAbs < 4294967296 ^ k) : Calls Tryd.prog 24 #[.int .i64 i] w (RetI w i k) :=
  (r_of_c w i h0 h1).mono fun _ _ r => r.i hs
theorem r01_of1 (w : World) (i : Int) (h0 : -4294967296 < i) (h1 : i < 4294967296) : Calls Tryd.prog 24 #[.int .i64 i] w (RetI w i 1) := r01_of w i 1 (by omega) (by omega) (by omega)
set_option maxRecDepth 100000 in
set_option maxHeartbeats 2000000 in
/-- linkworkref01.Sub -/
theorem r01_sub (w : World) (b : Bool) (A : Option Addr) (n c : Nat) (z : Int) (k : Nat) (h : IZ w b A n c z k) (b' : Bool) (A' : Option Addr) (n' c' : Nat) (z' : Int) (k' : Nat) (h' : IZ w b' A' n' c' z' k') (hk : k + k' ≤ 1000000000) :
    Calls Tryd.prog 36 #[.agg #[.bool b, .slice A n c], .agg #[.bool b', .slice A' n' c']] w (RetI w (z + -z') (k + k' + 1)) := by
  go_enter Tryd.func36, Tryd.ntmps36
  go_wp2_with fail
  have p1 : Kp w (((w.alloc (.cells #[.bool b, .slice A n c] 24)).alloc (.cells #[.bool b', .slice A' n' c'] 24)).alloc (.cells #[.bool false, .slice none 0 0] 24)) := ((((Kp.refl w).alloc (.cells #[.bool b, .slice A n c] 24)).alloc (.cells #[.bool b', .slice A' n' c'] 24)).alloc (.cells #[.bool false, .slice none 0 0] 24))
  have bw1 : Below w.heap.size w (((w.alloc (.cells #[.bool b, .slice A n c] 24)).alloc (.cells #[.bool b', .slice A' n' c'] 24)).alloc (.cells #[.bool false, .slice none 0 0] 24)) := ((((brefl w).alloc (by first | omega | (simp <;> omega)) (.cells #[.bool b, .slice A n c] 24)).alloc (by first | omega | (simp <;> omega)) (.cells #[.bool b', .slice A' n' c'] 24)).alloc (by first | omega | (simp <;> omega)) (.cells #[.bool false, .slice none 0 0] 24))
  have x1_0 : Blk (((w.alloc (.cells #[.bool b, .slice A n c] 24)).alloc (.cells #[.bool b', .slice A' n' c'] 24)).alloc (.cells #[.bool false, .slice none 0 0] 24)) (w.heap.size) 24 #[.bool b, .slice A n c] := (((blkAt _ _ _ (by simp)).alloc (.cells #[.bool b', .slice A' n' c'] 24)).alloc (.cells #[.bool false, .slice none 0 0] 24))
  have x1_1 : Blk (((w.alloc (.cells #[.bool b, .slice A n c] 24)).alloc (.cells #[.bool b', .slice A' n' c'] 24)).alloc (.cells #[.bool false, .slice none 0 0] 24)) (w.heap.size + 1) 24 #[.bool b', .slice A' n' c'] := ((blkAt _ _ _ (by simp)).alloc (.cells #[.bool false, .slice none 0 0] 24))
  have x1_2 : Blk (((w.alloc (.cells #[.bool b, .slice A n c] 24)).alloc (.cells #[.bool b', .slice A' n' c'] 24)).alloc (.cells #[.bool false, .slice none 0 0] 24)) (w.heap.size + 1 + 1) 24 #[.bool false, .slice none 0 0] := (blkAt _ _ _ (by simp))
  have lw1 : w.heap.size + 3 ≤ (((w.alloc (.cells #[.bool b, .slice A n c] 24)).alloc (.cells #[.bool b', .slice A' n' c'] 24)).alloc (.cells #[.bool false, .slice none 0 0] 24)).heap.size := by simp
  generalize hE1 : (((w.alloc (.cells #[.bool b, .slice A n c] 24)).alloc (.cells #[.bool b', .slice A' n' c'] 24)).alloc (.cells #[.bool false, .slice none 0 0] 24)) = w1 at p1 bw1 lw1 x1_0 x1_1 x1_2 ⊢
  clear hE1
  replace h := h.keep p1
  replace h' := h'.keep p1
  obtain ⟨cx1_0_0, cx1_0_1⟩ := x1_0.c2
  obtain ⟨lx1_0_0, lx1_0_1, lx1_0_2, lx1_0_3⟩ := lts0 x1_0.lt
  obtain ⟨cx1_1_0, cx1_1_1⟩ := x1_1.c2
  obtain ⟨lx1_1_0, lx1_1_1, lx1_1_2, lx1_1_3⟩ := lts1 x1_1.lt
  obtain ⟨cx1_2_0, cx1_2_1⟩ := x1_2.c2
  obtain ⟨fx1_2_0, fx1_2_1⟩ := x1_2.f2
  obtain ⟨lx1_2_0, lx1_2_1, lx1_2_2, lx1_2_3⟩ := lts2 x1_2.lt
  have nfx1_0_0 : ¬ w.heap.size = w.heap.size + 1 + 1 := by omega
  have nex1_0_0 : ¬ w.heap.size = w.heap.size + 2 := by omega
  have nfx1_1_0 : ¬ w.heap.size + 1 = w.heap.size + 1 + 1 := by omega
  have nex1_1_0 : ¬ w.heap.size = w.heap.size + 1 := by omega
  go_region_held3 (fun w' => SeesX w1.heap.size (w.heap.size + 1 + 1) w1 w') (first | with_reducible exact SeesX.of (Nat.le_refl _) (by assumption) | with_reducible exact SeesX.of (Nat.le_refl _) (brefl _).drew | with_reducible exact (SeesX.set (SeesX.set (SeesX.of (Nat.le_refl _) (by assumption)))) | with_reducible exact (SeesX.set (SeesX.of (Nat.le_refl _) (by assumption))) | exact SeesX.of (Nat.le_refl _) (below_drewN (brefl _) 1) | exact SeesX.of (Nat.le_refl _) (below_drewN (by assumption) _))
    (first
      | (go_at_call 34; (with_reducible refine (r01_neg _ b' A' n' c' (z') (k') ?_ ?_).mono ?_); (exact h'); (first | omega | decide | assumption); rintro e w2 ⟨b2, A2, n2, c2, rfl, h2, hb2⟩; replace hb2 := bnext (below_drewN (brefl _) 1) hb2; have q2 : Below w1.heap.size w1 w2 := bnext (brefl w1) hb2; replace h := h.belw hb2; replace h' := h'.belw hb2)
      | (go_at_call 35; (with_reducible refine (r01_add _ b A n c (z) (k) ?_ b2 A2 n2 c2 (-(z')) ((k')) ?_ ?_).mono ?_); (exact h); (exact h2.iz); (first | omega | decide | assumption); rintro e w3 ⟨b3, A3, n3, c3, rfl, h3, hb3⟩; have q3 : Below w1.heap.size w1 w3 := bnext q2 hb3; replace h := h.belw hb3; replace h' := h'.belw hb3; replace h2 := h2.belw hb3; have x1_2 : Blk w3 (w.heap.size + 1 + 1) 24 #[.bool false, .slice none 0 0] := x1_2.below q3 x1_2.lt; obtain ⟨cx1_2_0, cx1_2_1⟩ := x1_2.c2; obtain ⟨fx1_2_0, fx1_2_1⟩ := x1_2.f2))
  have bw3 : Below w.heap.size w w3 := bw1.trans (q3.mono bw1.size)
  clear cx1_0_0 cx1_0_1 lx1_0_0 lx1_0_1 lx1_0_2 lx1_0_3 cx1_1_0 cx1_1_1 lx1_1_0 lx1_1_1 lx1_1_2 lx1_1_3 cx1_2_0 fx1_2_0 cx1_2_1 fx1_2_1 lx1_2_0 lx1_2_1 lx1_2_2 lx1_2_3
  replace x1_0 := x1_0.below q3 x1_0.lt
  replace x1_1 := x1_1.below q3 x1_1.lt
  have lw3 : w1.heap.size ≤ w3.heap.size := q3.size
  obtain ⟨cx1_2_0, cx1_2_1⟩ := x1_2.c2
  obtain ⟨fx1_2_0, fx1_2_1⟩ := x1_2.f2
  go_wp2_with fail
  refine bodyPost_ret (v := .agg #[.bool b3, .slice A3 n3 c3]) (by simp [results, Tryd.results36, go_sem, *] <;> first | rfl | exact ⟨rfl, rfl⟩) rfl ?_
  exact ⟨b3, A3, n3, c3, rfl, h3.keep (((Kp.refl w3).setB (p := ⟨w.heap.size + 1 + 1, 0, none⟩) x1_2.box (by decide) (.bool b3)).setB (p := ⟨w.heap.size + 1 + 1, 1, none⟩) (x1_2.box.set ⟨w.heap.size + 1 + 1, 0, none⟩ (.bool b3)) (by decide) (.slice A3 n3 c3)), ((bw3.setCell (p := ⟨w.heap.size + 1 + 1, 0, none⟩) (by dsimp only; omega) (.bool b3)).setCell (p := ⟨w.heap.size + 1 + 1, 1, none⟩) (by dsimp only; omega) (.slice A3 n3 c3))⟩
set_option maxRecDepth 100000 in
set_option maxHeartbeats 2000000 in
/-- linkworkref01.Cmp -/
theorem r01_cmp (w : World) (b : Bool) (A : Option Addr) (n c : Nat) (z : Int) (k : Nat) (h : IZ w b A n c z k) (b' : Bool) (A' : Option Addr) (n' c' : Nat) (z' : Int) (k' : Nat) (h' : IZ w b' A' n' c' z' k') (hk : k + k' ≤ 999999999) :
    Calls Tryd.prog 38 #[.agg #[.bool b, .slice A n c], .agg #[.bool b', .slice A' n' c']] w (RetV w (.int .i64 (cmpI z z'))) := by
  go_enter Tryd.func38, Tryd.ntmps38
  go_wp2_with fail
  (with_reducible refine (r01_sub _ b A n c (z) (k) ?_ b' A' n' c' (z') (k') ?_ ?_).mono ?_); (exact (h.belw (((Below.refl _ _).alloc (Nat.le_refl _) _).alloc (by simp) _))); (exact (h'.belw (((Below.refl _ _).alloc (Nat.le_refl _) _).alloc (by simp) _))); (first | omega | decide | assumption); rintro e w1 ⟨b1, A1, n1, c1, rfl, h1, hb1⟩
  have q1 : Below w.heap.size w w1 := (((Below.refl _ _).alloc (Nat.le_refl _) _).alloc (by simp) _).trans (hb1.mono (by simp <;> omega))
  replace h := h.belw q1
  replace h' := h'.belw q1
  have x1_0 : Blk w1 (w.heap.size) 24 #[.bool b, .slice A n c] := ((blkAt _ _ _ (by simp)).alloc _).below hb1 (by simp <;> omega)
  have x1_1 : Blk w1 (w.heap.size + 1) 24 #[.bool b', .slice A' n' c'] := (blkAt _ _ _ (by simp)).below hb1 (by simp)
  have bw1 : Below w.heap.size w w1 := (brefl w).trans (q1.mono (brefl w).size)
  have lw1 : w.heap.size + 2 ≤ w1.heap.size := by have := hb1.size; simp at this; omega
  clear hb1 q1
  go_wp2_with fail
  (with_reducible refine (r01_sign _ b1 A1 n1 c1 ((z) + -(z')) ((k) + (k') + 1) ?_ ?_).mono ?_); (exact h1.iz); (first | omega | decide | assumption); rintro e w2 ⟨rfl, hb2⟩
  have q2 : Below w1.heap.size w1 w2 := hb2
  replace h := h.belw q2
  replace h' := h'.belw q2
  replace h1 := h1.belw q2
  replace x1_0 := x1_0.below q2 x1_0.lt
  replace x1_1 := x1_1.below q2 x1_1.lt
  have bw2 : Below w.heap.size w w2 := bw1.trans (q2.mono bw1.size)
  have lw2 : w1.heap.size ≤ w2.heap.size := q2.size
  clear hb2 q2 bw1
  go_wp2_with fail
  go_ret
  exact retI (cmpI_sub _ _) bw2
end Go.Proofs.YtkehcfclggmblaaDoor

/- The reference's Mul on integers. -/
namespace Go.Proofs.YtkehcfclggmblaaDoor
open Go Go.RowKit Bn
theorem r01_mul (w : World) (b : Bool) (A : Option Addr) (n c : Nat) (z : Int) (k : Nat) (h : IZ w b A n c z k) (b' : Bool) (A' : Option Addr) (n' c' : Nat) (z' : Int) (k' : Nat) (h' : IZ w b' A' n' c' z' k') (hk : k + k' ≤ 1000000000) : Calls Tryd.prog 37 #[.agg #[.bool b, .slice A n c], .agg #[.bool b', .slice A' n' c']] w (RetI w (z * z') (k + k')) := by
  have hz := h.lt
  have hz' := h'.lt
  obtain ⟨l, h1, rfl, h3⟩ := h
  obtain ⟨l', h1', rfl, h3'⟩ := h'
  exact (r_mul_C w b A n c l h1 (by omega) b' A' n' c' l' h1' (by omega)).mono fun _ _ r => r.i (natAbs_mul_lt hz hz')
end Go.Proofs.YtkehcfclggmblaaDoor

/- Walks: what the integer laws lean on: short, Same; roots and texts as values. -/
namespace Go.Proofs.YtkehcfclggmblaaDoor
open Go Go.RowKit Bn
attribute [local go_sem ↓] Go.wp_at_zero Go.wp_at_succ
/-- Integers in a row, of some lengths. -/
def Ws (w : World) (g N : Nat) (ns : Nat → Nat) : Prop := g < w.heap.size ∧ ∀ i, i < N → ∃ b A c, w.cell? ⟨g, i * 2, none⟩ = some (.bool b) ∧ w.cell? ⟨g, i * 2 + 1, none⟩ = some (.slice A (ns i) c)
theorem Ws.belw {w w' : World} {g N : Nat} {ns : Nat → Nat} (h : Ws w g N ns) (hb : Below w.heap.size w w') : Ws w' g N ns := by
  obtain ⟨hg, h⟩ := h
  have hc := (bcell hb).1
  refine ⟨Nat.lt_of_lt_of_le hg hb.size, fun i hi => ?_⟩
  obtain ⟨b, A, c, h1, h2⟩ := h i hi
  exact ⟨b, A, c, (hc _ _ hg).trans h1, (hc _ _ hg).trans h2⟩
def RetSh (w : World) (N : Nat) (ns : Nat → Nat) (e : Ending) (w' : World) : Prop := ∃ r : Bool, e = .returned (.bool r) ∧ (r = true → ∀ i, i < N → ns i ≤ 30) ∧ Below w.heap.size w w'
set_option maxRecDepth 100000 in
set_option maxHeartbeats 2000000 in
theorem l_short (w : World) (g N : Nat) (ns : Nat → Nat) (h : Ws w g N ns) (hN : N ≤ 1000) :
    Calls Tryd.prog 9 #[.slice (some ⟨g, 0, none⟩) N N] w (RetSh w N ns) := by
  go_enter Tryd.func9, Tryd.ntmps9
  go_wp2_with fail
  go_loopw [7] (fun iv wr => ∃ i : Nat, i ≤ N ∧ iv = .int .i64 (i : Nat) ∧ (∀ j, j < i → ns j ≤ 30) ∧ Below w.heap.size w wr) (fun iv _ => N - (intOf iv).toNat)
  case atStart => exact ⟨0, Nat.zero_le _, rfl, fun j hj => absurd hj (by omega), brefl w⟩
  case round =>
    obtain ⟨i, hi, rfl, hall, hb⟩ := hrel
    have HA := Lib.hid hall
    have HB := Lib.hid hb
    by_cases hlt : i < N
    · have hw := h.belw hb
      obtain ⟨b, A, c, c0, c1⟩ := hw.2 i hlt
      have hgl := hw.1
      have H := Lib.hid h
      obtain ⟨p, hp⟩ : ∃ p, ns i = p := ⟨_, rfl⟩
      rw [hp] at c1
      have HP := Lib.hid hp
      clear h hw hall hb hp
      by_cases h1 : p ≤ 30
      · go_wp2_with fail
        go_roundw
        case rel => exact ⟨i + 1, by omega, by go_num, fun j hj => by
          by_cases hji : j = i
          · subst hji; rw [HP.out]; exact h1
          · exact HA.out j (by omega), HB.out.alloc HB.out.size _⟩
        case measure => simp [intOf]; omega
      · go_wp2_with fail
        go_ret
        exact ⟨false, rfl, (fun h => nomatch h), HB.out.alloc HB.out.size _⟩
    · have hiN : i = N := by omega
      subst hiN
      clear h hall hb
      go_wp2_with fail
      go_ret
      exact ⟨true, rfl, fun _ => HA.out, HB.out⟩
set_option maxRecDepth 100000 in
set_option maxHeartbeats 2000000 in
/-- linkworkref01.Same, of equal integers -/
theorem s_same (w : World) (b : Bool) (A : Option Addr) (n c : Nat) (z : Int) (k : Nat) (h : IV w b A n c z k) (b' : Bool) (A' : Option Addr) (n' c' : Nat) (z' : Int) (k' : Nat) (h' : IV w b' A' n' c' z' k') (hz : z = z') (hk : k ≤ 1000000000) :
    Calls Tryd.prog 16 #[.agg #[.bool b, .slice A n c], .agg #[.bool b', .slice A' n' c']] w (RetV w (.bool true)) := by
  subst hz
  obtain ⟨rfl, wa, hn⟩ := h
  obtain ⟨rfl, wb, _⟩ := h'
  have hnn : n' = n := by rw [wa.2.1, wb.2.1]
  subst hnn
  obtain ⟨bb, hbb⟩ : ∃ bb, (wh z).neg = bb := ⟨_, rfl⟩
  obtain ⟨l, hl⟩ : ∃ l, (wh z).mag = l := ⟨_, rfl⟩
  rw [hl] at wa wb
  rw [hbb]
  have HA := Lib.hid wa
  have HB := Lib.hid wb
  clear wa wb hbb hl
  have x0 : Blk ((w.alloc (.cells #[.bool bb, .slice A n' c] 24)).alloc (.cells #[.bool bb, .slice A' n' c'] 24)) w.heap.size 24 #[.bool bb, .slice A n' c] := (blkAt w _ _ rfl).alloc _
  have x1 : Blk ((w.alloc (.cells #[.bool bb, .slice A n' c] 24)).alloc (.cells #[.bool bb, .slice A' n' c'] 24)) (w.heap.size + 1) 24 #[.bool bb, .slice A' n' c'] := (blkAt _ _ _ (by simp))
  have b0 : Below w.heap.size w ((w.alloc (.cells #[.bool bb, .slice A n' c] 24)).alloc (.cells #[.bool bb, .slice A' n' c'] 24)) := ((Below.refl _ _).alloc (Nat.le_refl _) _).alloc (by simp) _
  go_enter Tryd.func16, Tryd.ntmps16
  go_wp2_with fail
  generalize ((w.alloc (.cells #[.bool bb, .slice A n' c] 24)).alloc (.cells #[.bool bb, .slice A' n' c'] 24)) = W0 at x0 x1 b0 ⊢
  go_loopw [23] (fun iv wr => ∃ (i q : Nat), i ≤ n' ∧ iv = .int .i64 (i : Nat) ∧ wr = W0.drewN q) (fun iv _ => n' - (intOf iv).toNat)
  case atStart => exact ⟨0, 0, Nat.zero_le _, rfl, rfl⟩
  case round =>
    obtain ⟨i, q, hi, rfl, rfl⟩ := hrel
    by_cases hlt : i < n'
    · obtain ⟨g, o, rfl, hc1⟩ := (HA.out.belw b0).at_ (by omega)
      obtain ⟨g', o', rfl, hc2⟩ := (HB.out.belw b0).at_ (by omega)
      have h1 := hc1 i hlt
      have h2 := hc2 i hlt
      obtain ⟨cx0, cx1⟩ := x0.c2
      obtain ⟨cy0, cy1⟩ := x1.c2
      have hi0 : (0 : Int) ≤ (i : Int) := by omega
      have hi1 : (i : Int) < (n' : Int) := by omega
      generalize wd l i = x at h1 h2
      clear hc1 hc2
      go_wp2_with fail
      go_quiet (fail)
      go_wp2
      go_roundw
      case rel => exact ⟨i + 1, _, by omega, by go_num, rfl⟩
      case measure => simp [intOf]; omega
    · go_wp2
      go_ret
      exact retB rfl (by repeat (first | exact b0 | refine below_drewN ?_ _))
/-- Roots and texts as values. -/
theorem i_root (w : World) (b : Bool) (A : Option Addr) (n c : Nat) (z : Int) (k : Nat) (h : IZ w b A n c z k) (hk : k ≤ 1000000000) (v : Value) (hv : rootE z = v) (y : Int) (hy : rootZ z = y) :
    Calls Tryd.prog 12 #[.agg #[.bool b, .slice A n c]] w (RetIe w v y k) := by
  subst hv hy
  obtain ⟨l, h1, rfl, h3⟩ := h
  exact root_C w b A n c l k h1 h3 hk
theorem i_bits (w : World) (b : Bool) (A : Option Addr) (n c : Nat) (z : Int) (k : Nat) (h : IZ w b A n c z k) (hk : k ≤ 1000000000) :
    Calls Tryd.prog 27 #[.agg #[.bool b, .slice A n c]] w (RetV w (.int .i64 (blen z.natAbs : Nat))) := by
  obtain ⟨l, h1, rfl, h3⟩ := h
  exact bits_C w b A n c l h1 (by omega)
theorem r01_bits (w : World) (b : Bool) (A : Option Addr) (n c : Nat) (z : Int) (k : Nat) (h : IZ w b A n c z k) (hk : k ≤ 1000000000) :
    Calls Tryd.prog 28 #[.agg #[.bool b, .slice A n c]] w (RetV w (.int .i64 (blen z.natAbs : Nat))) := by
  obtain ⟨l, h1, rfl, h3⟩ := h
  exact r_bits_C w b A n c l h1 (by omega)
theorem i_text (w : World) (b : Bool) (A : Option Addr) (n c : Nat) (z : Int) (k : Nat) (h : IZ w b A n c z k) (T : ByteArray) (hk : k ≤ 1000000000) (ht : Tab w) (hT : ⟨(Lib.itoa z).toArray⟩ = T) :
    Calls Tryd.prog 40 #[.agg #[.bool b, .slice A n c]] w (RetV w (.string T)) := by
  subst hT
  obtain ⟨l, h1, rfl, h3⟩ := h
  exact text_C w b A n c l h1 (by omega) ht
/-- A text by its digits. -/
theorem itoa_nat (u : Nat) (l : List UInt8) (h : Lib.decDigits u = l) : (⟨(Lib.itoa (u : Int)).toArray⟩ : ByteArray) = ⟨l.toArray⟩ := by rw [Lib.itoa_nonneg, h]
theorem aw1 : (⟨(Lib.itoa ((-7) / 2)).toArray⟩ : ByteArray) = ⟨#[45, 52]⟩ := by
  rw [show ((-7 : Int) / 2) = -((4 : Nat) : Int) by decide, Lib.itoa_neg 4 (by omega), Lib.decDigits_one (by omega)]; rfl
theorem aw2 : (⟨(Lib.itoa ((-7) % 2)).toArray⟩ : ByteArray) = ⟨#[49]⟩ := by
  rw [show ((-7 : Int) % 2) = ((1 : Nat) : Int) by decide, Lib.itoa_nonneg, Lib.decDigits_one (by omega)]; rfl
theorem aw3 : (⟨(Lib.itoa 9).toArray⟩ : ByteArray) = ⟨#[57]⟩ := itoa_nat 9 _ (Lib.decDigits_one (by omega))
theorem aw4 : (⟨(Lib.itoa (Nat.gcd (-12 : Int).natAbs (18 : Int).natAbs : Nat)).toArray⟩ : ByteArray) = ⟨#[54]⟩ := itoa_nat _ _ (show Lib.decDigits 6 = [54] from Lib.decDigits_one (by omega))
theorem aw5 : (⟨(Lib.itoa 4294967296).toArray⟩ : ByteArray) = ⟨#[52, 50, 57, 52, 57, 54, 55, 50, 57, 54]⟩ := by
  refine itoa_nat 4294967296 _ ?_
  simp [Lib.decDigits]
theorem aw6 : rootE 99 = .nilIface := rfl
theorem aw7 : rootZ 99 = 9 := by
  unfold rootZ
  rw [if_neg (by decide), show (99 : Int).natAbs = 99 from rfl, isq_of (n := 99) (r := 9) (by decide) (by decide)]
  rfl
end Go.Proofs.YtkehcfclggmblaaDoor

/- Walks: awake. -/
namespace Go.Proofs.YtkehcfclggmblaaDoor
open Go Go.RowKit Bn
attribute [local go_sem ↓] Go.wp_at_zero Go.wp_at_succ
set_option maxRecDepth 100000 in
set_option maxHeartbeats 4000000 in
/-- linkworklaw01.awake -/
theorem l_awake (w : World) (htab : Tab w) :
    Calls Tryd.prog 10 #[] w (RetV w (.bool true)) := by
  go_enter Tryd.func10, Tryd.ntmps10
  go_wp2_with fail
  (with_reducible refine (r01_of1 _ ((-7)) ?_ ?_).mono ?_); (first | omega | decide | assumption); (first | omega | decide | assumption); rintro e w1 ⟨b1, A1, n1, c1, rfl, h1, hb1⟩
  have q1 : Below w.heap.size w w1 := hb1
  have bw1 : Below w.heap.size w w1 := (brefl w).trans (q1.mono (brefl w).size)
  have lw1 : w.heap.size ≤ w1.heap.size := q1.size
  clear hb1 q1
  go_wp2_with fail
  (with_reducible refine (r01_of1 _ (2) ?_ ?_).mono ?_); (first | omega | decide | assumption); (first | omega | decide | assumption); rintro e w2 ⟨b2, A2, n2, c2, rfl, h2, hb2⟩
  have q2 : Below w1.heap.size w1 w2 := hb2
  replace h1 := h1.belw q2
  have bw2 : Below w.heap.size w w2 := bw1.trans (q2.mono bw1.size)
  have lw2 : w1.heap.size ≤ w2.heap.size := q2.size
  clear hb2 q2 bw1
  go_wp2_with fail
  (with_reducible refine (i_div _ b1 A1 n1 c1 ((-7)) (1) ?_ b2 A2 n2 c2 (2) (1) ?_ ?_ ?_).mono ?_); (exact h1.iz); (exact h2.iz); (first | omega | decide | assumption); (first | omega | decide | assumption); rintro e w3 ⟨b3, A3, n3, c3, b'3, A'3, n'3, c'3, rfl, h3, h'3, hb3⟩
  have q3 : Below w2.heap.size w2 w3 := hb3
  replace h1 := h1.belw q3
  replace h2 := h2.belw q3
  have bw3 : Below w.heap.size w w3 := bw2.trans (q3.mono bw2.size)
  have lw3 : w2.heap.size ≤ w3.heap.size := q3.size
  clear hb3 q3 bw2
  go_wp2_with fail
  (with_reducible refine (r01_of1 _ (99) ?_ ?_).mono ?_); (first | omega | decide | assumption); (first | omega | decide | assumption); rintro e w4 ⟨b4, A4, n4, c4, rfl, h4, hb4⟩
  have q4 : Below w3.heap.size w3 w4 := (((Below.refl _ _).alloc (Nat.le_refl _) _).alloc (by simp) _).trans (hb4.mono (by simp <;> omega))
  replace h1 := h1.belw q4
  replace h2 := h2.belw q4
  replace h3 := h3.belw q4
  replace h'3 := h'3.belw q4
  have x4_0 : Blk w4 (w3.heap.size) 24 #[.bool b3, .slice A3 n3 c3] := ((blkAt _ _ _ (by simp)).alloc _).below hb4 (by simp <;> omega)
  have x4_1 : Blk w4 (w3.heap.size + 1) 24 #[.bool b'3, .slice A'3 n'3 c'3] := (blkAt _ _ _ (by simp)).below hb4 (by simp)
  have bw4 : Below w.heap.size w w4 := bw3.trans (q4.mono bw3.size)
  have lw4 : w3.heap.size + 2 ≤ w4.heap.size := by have := hb4.size; simp at this; omega
  clear hb4 q4 bw3
  go_wp2_with fail
  (with_reducible refine (i_root _ b4 A4 n4 c4 (99) (1) ?_ (by omega) _ aw6 _ aw7).mono ?_); (exact h4.iz); rintro e w5 ⟨b5, A5, n5, c5, rfl, h5, hb5⟩
  have q5 : Below w4.heap.size w4 w5 := hb5
  replace h1 := h1.belw q5
  replace h2 := h2.belw q5
  replace h3 := h3.belw q5
  replace h'3 := h'3.belw q5
  replace h4 := h4.belw q5
  replace x4_0 := x4_0.below q5 x4_0.lt
  replace x4_1 := x4_1.below q5 x4_1.lt
  have bw5 : Below w.heap.size w w5 := bw4.trans (q5.mono bw4.size)
  have lw5 : w4.heap.size ≤ w5.heap.size := q5.size
  clear hb5 q5 bw4
  obtain ⟨cx4_0_0, cx4_0_1⟩ := x4_0.c2
  obtain ⟨lx4_0_0, lx4_0_1, lx4_0_2, lx4_0_3⟩ := lts0 x4_0.lt
  go_wp2_with fail
  (with_reducible refine (i_text _ b3 A3 n3 c3 (((-7)) / (2)) ((1) + (1)) ?_ ⟨#[45, 52]⟩ ?_ ?_ ?_).mono ?_); (exact (h3.belw ((Below.refl _ _).alloc (Nat.le_refl _) _)).iz); (first | omega | decide | assumption); (exact htab.belw (bw5.alloc (by first | omega | (simp <;> omega)) (.cells #[.bool b5, .slice A5 n5 c5] 24))); (exact aw1); rintro e w6 ⟨rfl, hb6⟩
  clear cx4_0_0 cx4_0_1 lx4_0_0 lx4_0_1 lx4_0_2 lx4_0_3
  have q6 : Below w5.heap.size w5 w6 := ((Below.refl _ _).alloc (Nat.le_refl _) _).trans (hb6.mono (by simp))
  replace h1 := h1.belw q6
  replace h2 := h2.belw q6
  replace h3 := h3.belw q6
  replace h'3 := h'3.belw q6
  replace h4 := h4.belw q6
  replace h5 := h5.belw q6
  replace x4_0 := x4_0.below q6 x4_0.lt
  replace x4_1 := x4_1.below q6 x4_1.lt
  have x6_0 : Blk w6 (w5.heap.size) 24 #[.bool b5, .slice A5 n5 c5] := (blkAt _ _ _ (by simp)).below hb6 (by simp)
  have bw6 : Below w.heap.size w w6 := bw5.trans (q6.mono bw5.size)
  have lw6 : w5.heap.size + 1 ≤ w6.heap.size := by have := hb6.size; simp at this; omega
  clear hb6 q6 bw5
  obtain ⟨cx4_1_0, cx4_1_1⟩ := x4_1.c2
  obtain ⟨lx4_1_0, lx4_1_1, lx4_1_2, lx4_1_3⟩ := lts1 x4_1.lt
  go_wp2_with fail
  (with_reducible refine (i_text _ b'3 A'3 n'3 c'3 (((-7)) % (2)) ((1) + (1)) ?_ ⟨#[49]⟩ ?_ ?_ ?_).mono ?_); (exact h'3.iz); (first | omega | decide | assumption); (exact htab.belw bw6); (exact aw2); rintro e w7 ⟨rfl, hb7⟩
  clear cx4_1_0 cx4_1_1 lx4_1_0 lx4_1_1 lx4_1_2 lx4_1_3
  have q7 : Below w6.heap.size w6 w7 := hb7
  replace h1 := h1.belw q7
  replace h2 := h2.belw q7
  replace h3 := h3.belw q7
  replace h'3 := h'3.belw q7
  replace h4 := h4.belw q7
  replace h5 := h5.belw q7
  replace x4_0 := x4_0.below q7 x4_0.lt
  replace x4_1 := x4_1.below q7 x4_1.lt
  replace x6_0 := x6_0.below q7 x6_0.lt
  have bw7 : Below w.heap.size w w7 := bw6.trans (q7.mono bw6.size)
  have lw7 : w6.heap.size ≤ w7.heap.size := q7.size
  clear hb7 q7 bw6
  obtain ⟨cx6_0_0, cx6_0_1⟩ := x6_0.c2
  obtain ⟨lx6_0_0, lx6_0_1, lx6_0_2, lx6_0_3⟩ := lts0 x6_0.lt
  go_wp2_with fail
  (with_reducible refine (i_text _ b5 A5 n5 c5 (9) ((1)) ?_ ⟨#[57]⟩ ?_ ?_ ?_).mono ?_); (exact h5.iz); (first | omega | decide | assumption); (exact htab.belw bw7); (exact aw3); rintro e w8 ⟨rfl, hb8⟩
  clear cx6_0_0 cx6_0_1 lx6_0_0 lx6_0_1 lx6_0_2 lx6_0_3
  have q8 : Below w7.heap.size w7 w8 := hb8
  replace h1 := h1.belw q8
  replace h2 := h2.belw q8
  replace h3 := h3.belw q8
  replace h'3 := h'3.belw q8
  replace h4 := h4.belw q8
  replace h5 := h5.belw q8
  replace x4_0 := x4_0.below q8 x4_0.lt
  replace x4_1 := x4_1.below q8 x4_1.lt
  replace x6_0 := x6_0.below q8 x6_0.lt
  have bw8 : Below w.heap.size w w8 := bw7.trans (q8.mono bw7.size)
  have lw8 : w7.heap.size ≤ w8.heap.size := q8.size
  clear hb8 q8 bw7
  go_wp2_with fail
  (with_reducible refine (r01_of1 _ ((-12)) ?_ ?_).mono ?_); (first | omega | decide | assumption); (first | omega | decide | assumption); rintro e w9 ⟨b9, A9, n9, c9, rfl, h9, hb9⟩
  have q9 : Below w8.heap.size w8 w9 := hb9
  replace h1 := h1.belw q9
  replace h2 := h2.belw q9
  replace h3 := h3.belw q9
  replace h'3 := h'3.belw q9
  replace h4 := h4.belw q9
  replace h5 := h5.belw q9
  replace x4_0 := x4_0.below q9 x4_0.lt
  replace x4_1 := x4_1.below q9 x4_1.lt
  replace x6_0 := x6_0.below q9 x6_0.lt
  have bw9 : Below w.heap.size w w9 := bw8.trans (q9.mono bw8.size)
  have lw9 : w8.heap.size ≤ w9.heap.size := q9.size
  clear hb9 q9 bw8
  go_wp2_with fail
  (with_reducible refine (r01_of1 _ (18) ?_ ?_).mono ?_); (first | omega | decide | assumption); (first | omega | decide | assumption); rintro e w10 ⟨b10, A10, n10, c10, rfl, h10, hb10⟩
  have q10 : Below w9.heap.size w9 w10 := hb10
  replace h1 := h1.belw q10
  replace h2 := h2.belw q10
  replace h3 := h3.belw q10
  replace h'3 := h'3.belw q10
  replace h4 := h4.belw q10
  replace h5 := h5.belw q10
  replace h9 := h9.belw q10
  replace x4_0 := x4_0.below q10 x4_0.lt
  replace x4_1 := x4_1.below q10 x4_1.lt
  replace x6_0 := x6_0.below q10 x6_0.lt
  have bw10 : Below w.heap.size w w10 := bw9.trans (q10.mono bw9.size)
  have lw10 : w9.heap.size ≤ w10.heap.size := q10.size
  clear hb10 q10 bw9
  go_wp2_with fail
  (with_reducible refine (i_gcd _ b9 A9 n9 c9 ((-12)) (1) ?_ b10 A10 n10 c10 (18) (1) ?_ ?_).mono ?_); (exact h9.iz); (exact h10.iz); (first | omega | decide | assumption); rintro e w11 ⟨b11, A11, n11, c11, rfl, h11, hb11⟩
  have q11 : Below w10.heap.size w10 w11 := hb11
  replace h1 := h1.belw q11
  replace h2 := h2.belw q11
  replace h3 := h3.belw q11
  replace h'3 := h'3.belw q11
  replace h4 := h4.belw q11
  replace h5 := h5.belw q11
  replace h9 := h9.belw q11
  replace h10 := h10.belw q11
  replace x4_0 := x4_0.below q11 x4_0.lt
  replace x4_1 := x4_1.below q11 x4_1.lt
  replace x6_0 := x6_0.below q11 x6_0.lt
  have bw11 : Below w.heap.size w w11 := bw10.trans (q11.mono bw10.size)
  have lw11 : w10.heap.size ≤ w11.heap.size := q11.size
  clear hb11 q11 bw10
  go_wp2_with fail
  (with_reducible refine (i_text _ b11 A11 n11 c11 ((Nat.gcd (((-12)) : Int).natAbs ((18) : Int).natAbs : Nat)) ((1) + (1)) ?_ ⟨#[54]⟩ ?_ ?_ ?_).mono ?_); (exact h11.iz); (first | omega | decide | assumption); (exact htab.belw bw11); (exact aw4); rintro e w12 ⟨rfl, hb12⟩
  have q12 : Below w11.heap.size w11 w12 := hb12
  replace h1 := h1.belw q12
  replace h2 := h2.belw q12
  replace h3 := h3.belw q12
  replace h'3 := h'3.belw q12
  replace h4 := h4.belw q12
  replace h5 := h5.belw q12
  replace h9 := h9.belw q12
  replace h10 := h10.belw q12
  replace h11 := h11.belw q12
  replace x4_0 := x4_0.below q12 x4_0.lt
  replace x4_1 := x4_1.below q12 x4_1.lt
  replace x6_0 := x6_0.below q12 x6_0.lt
  have bw12 : Below w.heap.size w w12 := bw11.trans (q12.mono bw11.size)
  have lw12 : w11.heap.size ≤ w12.heap.size := q12.size
  clear hb12 q12 bw11
  go_wp2_with fail
  have p13 : Kp w12 (w12.alloc (.cells #[.int .u32 0, .int .u32 1] 53)) := ((Kp.refl w12).alloc (.cells #[.int .u32 0, .int .u32 1] 53))
  have bw13 : Below w.heap.size w (w12.alloc (.cells #[.int .u32 0, .int .u32 1] 53)) := (bw12.alloc (by first | omega | (simp <;> omega)) (.cells #[.int .u32 0, .int .u32 1] 53))
  have x13_0 : Blk (w12.alloc (.cells #[.int .u32 0, .int .u32 1] 53)) (w12.heap.size) 53 #[.int .u32 0, .int .u32 1] := (blkAt _ _ _ (by simp))
  replace x4_0 : Blk (w12.alloc (.cells #[.int .u32 0, .int .u32 1] 53)) (w3.heap.size) 24 #[.bool b3, .slice A3 n3 c3] := (x4_0.alloc (.cells #[.int .u32 0, .int .u32 1] 53))
  replace x4_1 : Blk (w12.alloc (.cells #[.int .u32 0, .int .u32 1] 53)) (w3.heap.size + 1) 24 #[.bool b'3, .slice A'3 n'3 c'3] := (x4_1.alloc (.cells #[.int .u32 0, .int .u32 1] 53))
  replace x6_0 : Blk (w12.alloc (.cells #[.int .u32 0, .int .u32 1] 53)) (w5.heap.size) 24 #[.bool b5, .slice A5 n5 c5] := (x6_0.alloc (.cells #[.int .u32 0, .int .u32 1] 53))
  have lw13 : w12.heap.size + 1 ≤ (w12.alloc (.cells #[.int .u32 0, .int .u32 1] 53)).heap.size := by simp
  generalize hE13 : (w12.alloc (.cells #[.int .u32 0, .int .u32 1] 53)) = w13 at p13 bw13 lw13 x13_0 x4_0 x4_1 x6_0 ⊢
  clear hE13
  replace h1 := h1.keep p13
  replace h2 := h2.keep p13
  replace h3 := h3.keep p13
  replace h'3 := h'3.keep p13
  replace h4 := h4.keep p13
  replace h5 := h5.keep p13
  replace h9 := h9.keep p13
  replace h10 := h10.keep p13
  replace h11 := h11.keep p13
  clear bw12
  have hW : IZ w13 false (some ⟨w12.heap.size, 0, none⟩) 2 2 4294967296 2 := ⟨[0, 1], (show Blk w13 (w12.heap.size) 53 (cellsOf [0, 1]) from x13_0).wdN (by intro x hx; simp at hx; omega) rfl, by decide, Nat.le_refl _⟩
  (with_reducible refine (i_text _ false (some ⟨w12.heap.size, 0, none⟩) 2 2 (4294967296) (2) ?_ ⟨#[52, 50, 57, 52, 57, 54, 55, 50, 57, 54]⟩ ?_ ?_ ?_).mono ?_); (exact hW); (first | omega | decide | assumption); (exact htab.belw bw13); (exact aw5); rintro e w14 ⟨rfl, hb14⟩
  have q14 : Below w13.heap.size w13 w14 := hb14
  replace h1 := h1.belw q14
  replace h2 := h2.belw q14
  replace h3 := h3.belw q14
  replace h'3 := h'3.belw q14
  replace h4 := h4.belw q14
  replace h5 := h5.belw q14
  replace h9 := h9.belw q14
  replace h10 := h10.belw q14
  replace h11 := h11.belw q14
  replace hW := hW.belw q14
  replace x4_0 := x4_0.below q14 x4_0.lt
  replace x4_1 := x4_1.below q14 x4_1.lt
  replace x6_0 := x6_0.below q14 x6_0.lt
  replace x13_0 := x13_0.below q14 x13_0.lt
  have bw14 : Below w.heap.size w w14 := bw13.trans (q14.mono bw13.size)
  have lw14 : w13.heap.size ≤ w14.heap.size := q14.size
  clear hb14 q14 bw13
  go_wp2_with fail
  go_ret
  exact retB rfl bw14
end Go.Proofs.YtkehcfclggmblaaDoor

/- Walks: the opening of the integer laws. -/
namespace Go.Proofs.YtkehcfclggmblaaDoor
open Go Go.RowKit Bn
attribute [local go_sem ↓] Go.wp_at_zero Go.wp_at_succ
set_option maxRecDepth 100000 in
set_option maxHeartbeats 2000000 in
/-- integer.Sub -/
theorem i_sub (w : World) (b : Bool) (A : Option Addr) (n c : Nat) (z : Int) (k : Nat) (h : IZ w b A n c z k) (b' : Bool) (A' : Option Addr) (n' c' : Nat) (z' : Int) (k' : Nat) (h' : IZ w b' A' n' c' z' k') (hk : k + k' ≤ 1000000000) :
    Calls Tryd.prog 31 #[.agg #[.bool b, .slice A n c], .agg #[.bool b', .slice A' n' c']] w (RetI w (z + -z') (k + k' + 1)) := by
  go_enter Tryd.func31, Tryd.ntmps31
  go_wp2_with fail
  have p1 : Kp w (((w.alloc (.cells #[.bool b, .slice A n c] 24)).alloc (.cells #[.bool b', .slice A' n' c'] 24)).alloc (.cells #[.bool false, .slice none 0 0] 24)) := ((((Kp.refl w).alloc (.cells #[.bool b, .slice A n c] 24)).alloc (.cells #[.bool b', .slice A' n' c'] 24)).alloc (.cells #[.bool false, .slice none 0 0] 24))
  have bw1 : Below w.heap.size w (((w.alloc (.cells #[.bool b, .slice A n c] 24)).alloc (.cells #[.bool b', .slice A' n' c'] 24)).alloc (.cells #[.bool false, .slice none 0 0] 24)) := ((((brefl w).alloc (by first | omega | (simp <;> omega)) (.cells #[.bool b, .slice A n c] 24)).alloc (by first | omega | (simp <;> omega)) (.cells #[.bool b', .slice A' n' c'] 24)).alloc (by first | omega | (simp <;> omega)) (.cells #[.bool false, .slice none 0 0] 24))
  have x1_0 : Blk (((w.alloc (.cells #[.bool b, .slice A n c] 24)).alloc (.cells #[.bool b', .slice A' n' c'] 24)).alloc (.cells #[.bool false, .slice none 0 0] 24)) (w.heap.size) 24 #[.bool b, .slice A n c] := (((blkAt _ _ _ (by simp)).alloc (.cells #[.bool b', .slice A' n' c'] 24)).alloc (.cells #[.bool false, .slice none 0 0] 24))
  have x1_1 : Blk (((w.alloc (.cells #[.bool b, .slice A n c] 24)).alloc (.cells #[.bool b', .slice A' n' c'] 24)).alloc (.cells #[.bool false, .slice none 0 0] 24)) (w.heap.size + 1) 24 #[.bool b', .slice A' n' c'] := ((blkAt _ _ _ (by simp)).alloc (.cells #[.bool false, .slice none 0 0] 24))
  have x1_2 : Blk (((w.alloc (.cells #[.bool b, .slice A n c] 24)).alloc (.cells #[.bool b', .slice A' n' c'] 24)).alloc (.cells #[.bool false, .slice none 0 0] 24)) (w.heap.size + 1 + 1) 24 #[.bool false, .slice none 0 0] := (blkAt _ _ _ (by simp))
  have lw1 : w.heap.size + 3 ≤ (((w.alloc (.cells #[.bool b, .slice A n c] 24)).alloc (.cells #[.bool b', .slice A' n' c'] 24)).alloc (.cells #[.bool false, .slice none 0 0] 24)).heap.size := by simp
  generalize hE1 : (((w.alloc (.cells #[.bool b, .slice A n c] 24)).alloc (.cells #[.bool b', .slice A' n' c'] 24)).alloc (.cells #[.bool false, .slice none 0 0] 24)) = w1 at p1 bw1 lw1 x1_0 x1_1 x1_2 ⊢
  clear hE1
  replace h := h.keep p1
  replace h' := h'.keep p1
  obtain ⟨cx1_0_0, cx1_0_1⟩ := x1_0.c2
  obtain ⟨lx1_0_0, lx1_0_1, lx1_0_2, lx1_0_3⟩ := lts0 x1_0.lt
  obtain ⟨cx1_1_0, cx1_1_1⟩ := x1_1.c2
  obtain ⟨lx1_1_0, lx1_1_1, lx1_1_2, lx1_1_3⟩ := lts1 x1_1.lt
  obtain ⟨cx1_2_0, cx1_2_1⟩ := x1_2.c2
  obtain ⟨fx1_2_0, fx1_2_1⟩ := x1_2.f2
  obtain ⟨lx1_2_0, lx1_2_1, lx1_2_2, lx1_2_3⟩ := lts2 x1_2.lt
  have nfx1_0_0 : ¬ w.heap.size = w.heap.size + 1 + 1 := by omega
  have nex1_0_0 : ¬ w.heap.size = w.heap.size + 2 := by omega
  have nfx1_1_0 : ¬ w.heap.size + 1 = w.heap.size + 1 + 1 := by omega
  have nex1_1_0 : ¬ w.heap.size = w.heap.size + 1 := by omega
  go_region_held3 (fun w' => SeesX w1.heap.size (w.heap.size + 1 + 1) w1 w') (first | with_reducible exact SeesX.of (Nat.le_refl _) (by assumption) | with_reducible exact SeesX.of (Nat.le_refl _) (brefl _).drew | with_reducible exact (SeesX.set (SeesX.set (SeesX.of (Nat.le_refl _) (by assumption)))) | with_reducible exact (SeesX.set (SeesX.of (Nat.le_refl _) (by assumption))) | exact SeesX.of (Nat.le_refl _) (below_drewN (brefl _) 1) | exact SeesX.of (Nat.le_refl _) (below_drewN (by assumption) _))
    (first
      | (go_at_call 32; (with_reducible refine (i_neg _ b' A' n' c' (z') (k') ?_ ?_).mono ?_); (exact h'); (first | omega | decide | assumption); rintro e w2 ⟨b2, A2, n2, c2, rfl, h2, hb2⟩; replace hb2 := bnext (below_drewN (brefl _) 1) hb2; have q2 : Below w1.heap.size w1 w2 := bnext (brefl w1) hb2; replace h := h.belw hb2; replace h' := h'.belw hb2)
      | (go_at_call 29; (with_reducible refine (i_add _ b A n c (z) (k) ?_ b2 A2 n2 c2 (-(z')) ((k')) ?_ ?_).mono ?_); (exact h); (exact h2.iz); (first | omega | decide | assumption); rintro e w3 ⟨b3, A3, n3, c3, rfl, h3, hb3⟩; have q3 : Below w1.heap.size w1 w3 := bnext q2 hb3; replace h := h.belw hb3; replace h' := h'.belw hb3; replace h2 := h2.belw hb3; have x1_2 : Blk w3 (w.heap.size + 1 + 1) 24 #[.bool false, .slice none 0 0] := x1_2.below q3 x1_2.lt; obtain ⟨cx1_2_0, cx1_2_1⟩ := x1_2.c2; obtain ⟨fx1_2_0, fx1_2_1⟩ := x1_2.f2))
  have bw3 : Below w.heap.size w w3 := bw1.trans (q3.mono bw1.size)
  clear cx1_0_0 cx1_0_1 lx1_0_0 lx1_0_1 lx1_0_2 lx1_0_3 cx1_1_0 cx1_1_1 lx1_1_0 lx1_1_1 lx1_1_2 lx1_1_3 cx1_2_0 fx1_2_0 cx1_2_1 fx1_2_1 lx1_2_0 lx1_2_1 lx1_2_2 lx1_2_3
  replace x1_0 := x1_0.below q3 x1_0.lt
  replace x1_1 := x1_1.below q3 x1_1.lt
  have lw3 : w1.heap.size ≤ w3.heap.size := q3.size
  obtain ⟨cx1_2_0, cx1_2_1⟩ := x1_2.c2
  obtain ⟨fx1_2_0, fx1_2_1⟩ := x1_2.f2
  go_wp2_with fail
  refine bodyPost_ret (v := .agg #[.bool b3, .slice A3 n3 c3]) (by simp [results, Tryd.results31, go_sem, *] <;> first | rfl | exact ⟨rfl, rfl⟩) rfl ?_
  exact ⟨b3, A3, n3, c3, rfl, h3.keep (((Kp.refl w3).setB (p := ⟨w.heap.size + 1 + 1, 0, none⟩) x1_2.box (by decide) (.bool b3)).setB (p := ⟨w.heap.size + 1 + 1, 1, none⟩) (x1_2.box.set ⟨w.heap.size + 1 + 1, 0, none⟩ (.bool b3)) (by decide) (.slice A3 n3 c3)), ((bw3.setCell (p := ⟨w.heap.size + 1 + 1, 0, none⟩) (by dsimp only; omega) (.bool b3)).setCell (p := ⟨w.heap.size + 1 + 1, 1, none⟩) (by dsimp only; omega) (.slice A3 n3 c3))⟩
theorem i_valid (w : World) (b : Bool) (A : Option Addr) (n c : Nat) (z : Int) (k : Nat) (h : IV w b A n c z k) (hk : k ≤ 1000000000) :
    Calls Tryd.prog 21 #[.agg #[.bool b, .slice A n c]] w (RetV w (.bool true)) := by
  obtain ⟨rfl, h1, h2⟩ := h
  have := valid_c w (wh z).neg A n c (wh z).mag h1 (by omega)
  rw [show WD.ok ⟨(wh z).neg, (wh z).mag⟩ = true from wh_ok z] at this
  exact this
theorem i_cmp_v (w : World) (b : Bool) (A : Option Addr) (n c : Nat) (z : Int) (k : Nat) (h : IZ w b A n c z k) (b' : Bool) (A' : Option Addr) (n' c' : Nat) (z' : Int) (k' : Nat) (h' : IZ w b' A' n' c' z' k') (v : Int) (hv : cmpI z z' = v) (hk : k + k' ≤ 1000000000) : Calls Tryd.prog 33 #[.agg #[.bool b, .slice A n c], .agg #[.bool b', .slice A' n' c']] w (RetV w (.int .i64 v)) := by
  subst hv; exact i_cmp w b A n c z k h b' A' n' c' z' k' h' hk
theorem i_sign_v (w : World) (b : Bool) (A : Option Addr) (n c : Nat) (z : Int) (k : Nat) (h : IZ w b A n c z k) (v : Int) (hv : z.sign = v) (hk : k ≤ 1000000000) : Calls Tryd.prog 25 #[.agg #[.bool b, .slice A n c]] w (RetV w (.int .i64 v)) := by
  subst hv; exact i_sign w b A n c z k h hk
theorem IZ.short {w : World} {b : Bool} {A : Option Addr} {n c k : Nat} {z : Int} (h : IZ w b A n c z k) (hs : n ≤ 30) : IZ w b A n c z 30 := by
  obtain ⟨l, h1, h2, _⟩ := h
  exact ⟨l, h1, h2, hs⟩
theorem ws1 {w : World} {g : Nat} {T : TypeId} {b : Bool} {A : Option Addr} {n c : Nat} (hb : Blk w g T #[.bool b, .slice A n c]) : Ws w g 1 (fun _ : Nat => n) := by
  refine ⟨hb.lt, fun i hi => ?_⟩
  match i, hi with
  | 0, _ => exact ⟨_, _, _, hb.cell 0, hb.cell 1⟩
theorem ws2 {w : World} {g : Nat} {T : TypeId} {b : Bool} {A : Option Addr} {n c : Nat} {b1 : Bool} {A1 : Option Addr} {n1 c1 : Nat}
    (hb : Blk w g T #[.bool b, .slice A n c, .bool b1, .slice A1 n1 c1]) : Ws w g 2 (fun i : Nat => if i = 0 then n else n1) := by
  refine ⟨hb.lt, fun i hi => ?_⟩
  match i, hi with
  | 0, _ => exact ⟨_, _, _, hb.cell 0, hb.cell 1⟩
  | 1, _ => exact ⟨_, _, _, hb.cell 2, hb.cell 3⟩
theorem ws3 {w : World} {g : Nat} {T : TypeId} {b : Bool} {A : Option Addr} {n c : Nat} {b1 : Bool} {A1 : Option Addr} {n1 c1 : Nat} {b2 : Bool} {A2 : Option Addr} {n2 c2 : Nat}
    (hb : Blk w g T #[.bool b, .slice A n c, .bool b1, .slice A1 n1 c1, .bool b2, .slice A2 n2 c2]) : Ws w g 3 (fun i : Nat => if i = 0 then n else if i = 1 then n1 else n2) := by
  refine ⟨hb.lt, fun i hi => ?_⟩
  match i, hi with
  | 0, _ => exact ⟨_, _, _, hb.cell 0, hb.cell 1⟩
  | 1, _ => exact ⟨_, _, _, hb.cell 2, hb.cell 3⟩
  | 2, _ => exact ⟨_, _, _, hb.cell 4, hb.cell 5⟩
theorem cmpI_low (x y : Int) : -1 ≤ cmpI x y ∧ cmpI x y ≤ 1 := by
  unfold cmpI; (repeat' split) <;> omega
theorem cmpI_swap (x y : Int) : cmpI y x = -cmpI x y := by
  unfold cmpI; (repeat' split) <;> omega
theorem cmpI_add (x y c : Int) : cmpI (x + c) (y + c) = cmpI x y := by
  unfold cmpI; (repeat' split) <;> omega
theorem sign_low (x : Int) : -1 ≤ x.sign ∧ x.sign ≤ 1 := by
  rcases Int.lt_trichotomy x 0 with h | h | h
  · rw [Int.sign_eq_neg_one_of_neg h]; decide
  · subst h; decide
  · rw [Int.sign_eq_one_of_pos h]; decide
theorem cmpI_mul (x y c : Int) : cmpI (x * c) (y * c) = cmpI x y * c.sign := by
  rcases Int.lt_trichotomy c 0 with h | h | h
  · rw [Int.sign_eq_neg_one_of_neg h]
    rcases Int.lt_trichotomy x y with e | e | e
    · have := Int.mul_lt_mul_of_neg_right e h
      unfold cmpI; rw [if_neg (by omega), if_neg (by omega), if_pos e]; rfl
    · subst e; unfold cmpI; simp
    · have := Int.mul_lt_mul_of_neg_right e h
      unfold cmpI; rw [if_pos this, if_neg (by omega), if_neg (by omega)]; rfl
  · subst h; simp [cmpI]
  · rw [Int.sign_eq_one_of_pos h, Int.mul_one]
    rcases Int.lt_trichotomy x y with e | e | e
    · have := Int.mul_lt_mul_of_pos_right e h
      unfold cmpI; rw [if_pos this, if_pos e]
    · subst e; unfold cmpI; simp
    · have := Int.mul_lt_mul_of_pos_right e h
      unfold cmpI; rw [if_neg (by omega), if_neg (by omega), if_neg (by omega), if_neg (by omega)]
theorem cmpI_trans {x y c : Int} (h1 : ¬ 0 < cmpI x y) (h2 : ¬ 0 < cmpI y c) : cmpI x c ≤ 0 := by
  revert h1 h2; unfold cmpI; (repeat' split) <;> omega
end Go.Proofs.YtkehcfclggmblaaDoor

/- The arguments of a row opened: integers that came in read as lists of words. -/
namespace Go.Proofs.YtkehcfclggmblaaDoor
open Go Go.RowKit Bn Go.ChangeShapes Go.WideShapes

/-- All arguments read behind the call as they did. -/
theorem args_again {H : Type} {enc : TypeId × Value → H} {W : World} {P : Program} (hl : laidOutB P = true) {W' : World} (hb : Below W.heap.size W W') : ∀ {ts : List TypeId} {vs : List Value} {ds : List (DataW H)} {ps : List MemPlace}, (ts.all fun t => P.readableRec t && decide (t < P.types.size)) = true →
    DataW.TrodAll enc P W 0 (fun _ => true) true ts vs ds ps → DataW.TrodAll enc P W' 0 (fun b => decide (b < W.heap.size)) true ts vs ds ps
  | [], [], [], _, _, h => h
  | _ :: _, _ :: _, _ :: _, _, hr, h => by
    have hlt := h.lt
    obtain ⟨p, q, h1, h2, e⟩ := h
    rw [List.all_cons, Bool.and_eq_true, Bool.and_eq_true, decide_eq_true_eq] at hr
    exact ⟨p, q, Below.trod hl hr.1.1 hr.1.2 h1 hb (fun x hx => hlt x (by rw [e]; exact List.mem_append_left _ hx)), args_again hl hb hr.2 h2, e⟩
  | [], [], _ :: _, _, _, h => h.elim
  | [], _ :: _, _, _, _, h => h.elim
  | _ :: _, [], _, _, _, h => h.elim
  | _ :: _, _ :: _, [], _, _, h => h.elim
/-- A law that returns true and turns nothing that was there. -/
theorem law_post {H : Type} {enc : TypeId × Value → H} {W : World} {P : Program} {B : TypeId} {f : Func} {s : ChangeSpec} {W' : World} {args : Array Value} {ds : List (DataW H)} {before : List MemPlace} (hl : laidOutB P = true) (hB : P.underlying B = some .bool)
    (hW : DataW.Whole enc P f.params.toList s.vars false W args.toList ds [] before) (hv : s.vars = []) (hr : f.resultTypes = #[B]) (hp : (f.params.toList.all fun t => P.readableRec t && decide (t < P.types.size)) = true)
    (hres : (s.fn H (ds ++ [])).results = [.lit (.bool true)]) (hargs : (s.fn H (ds ++ [])).args = ds) (hvars : (s.fn H (ds ++ [])).vars = []) (hb : Below W.heap.size W W') :
    s.post enc P f false true false false W args (.bool true) W' := by
  have hW' := hW
  obtain ⟨p, q, hA, hV, rfl, _, _⟩ := hW
  have hV' := hV
  rw [hv] at hV'
  obtain ⟨_, rfl⟩ := trodVars_none hV'
  refine ⟨ds, [], _, [], p, [], hW', ?_, ?_, ?_, hb.frame _, fun h => by cases h⟩
  · rw [hr, hres]
    exact trodAll_mk1 (shut_bool hB _)
  · rw [hargs]
    exact args_again hl hb hp hA
  · rw [hv, hvars]
    rfl
/-- Nothing in a type's layout fits. -/
def bareB (p : Program) (fits : TypeId → Bool) : Nat → TypeId → Bool
  | 0, _ => true
  | d + 1, e => !fits e && match p.underlying e with
    | some (.struct fs) => fs.all fun f => bareB p fits d f.type
    | some (.array _ e') => bareB p fits d e'
    | _ => true
theorem rowAt_bare {p : Program} {fits : TypeId → Bool} : ∀ (d : Nat) (e : TypeId) (count off n : Nat), bareB p fits d e = true → rowAt p fits d e count off n = false := by
  intro d
  induction d with
  | zero => intro e count off n _; rfl
  | succ d ih =>
    intro e count off n h
    unfold bareB at h
    rw [Bool.and_eq_true] at h
    obtain ⟨h1, h2⟩ := h
    have h1 : fits e = false := by simpa using h1
    unfold rowAt
    dsimp only
    split
    · rfl
    · rw [h1, Bool.and_false, Bool.false_or]
      split at h2
      · rename_i fs hu
        rw [hu]
        dsimp only
        have : (fs.any fun f => decide (f.offset ≤ off % p.cellsOf e) && decide (off % p.cellsOf e < f.offset + p.cellsOf f.type) && rowAt p fits d f.type 1 (off % p.cellsOf e - f.offset) n) = false := by
          rw [Array.any_eq_false]
          intro i hi
          have := Array.all_eq_true.1 h2 i hi
          rw [ih _ _ _ _ this]; simp
        rw [this]; simp
      · rename_i m e' hu
        rw [hu]
        dsimp only
        rw [ih _ _ _ _ h2]; simp
      · rename_i hn1 hn2
        split
        · rename_i fs hu; exact absurd hu (hn1 _)
        · rename_i m e' hu; exact absurd hu (hn2 _ _)
        · simp
theorem lies_u32 {e : TypeId} {count off n : Nat} (h : bareB Tryd.prog (sameLayout Tryd.prog Tryd.prog.depth · 53) Tryd.prog.depth e = true) : liesAt Tryd.prog Tryd.prog.depth e count off 53 n = false := by
  have : ∀ d, liesAt Tryd.prog d e count off 53 n = false := by
    intro d
    cases d with
    | zero => rfl
    | succ d =>
      unfold liesAt
      rw [rowAt_bare _ _ _ _ _ h, Tryd.underlying53]
      rfl
  exact this _
theorem bare_whole : bareB Tryd.prog (sameLayout Tryd.prog Tryd.prog.depth · 53) Tryd.prog.depth 24 = true := by kernel_rfl
theorem kt_of_lies {e : TypeId} {count off n : Nat} (h : liesAt Tryd.prog Tryd.prog.depth e count off 53 n = true) : KT e = true := by
  unfold KT
  by_cases h1 : e = 24
  · subst h1; rw [lies_u32 bare_whole] at h; cases h
  simp [h1]
section
variable {H : Type} {enc : TypeId × Value → H} {W : World} {base : Nat}
set_option maxRecDepth 100000 in
theorem words_open {v : Value} {fuel : Nat} {x : DataW H × List MemPlace} (hok : Cell.okWide Tryd.prog W .any base 22 v) (ht : DataW.trod enc Tryd.prog W 0 (fun _ => true) true fuel 22 [v] = some x) :
    ∃ A n c l, v = .slice A n c ∧ Wd W A n c l := by
  rcases open_ints Tryd.underlying22 Tryd.underlying53 (by kernel_rfl) ht with ⟨hv, _⟩ | ⟨a, len, cap, zs, hv, _, hl, _, hz, _, hc, hwf⟩
  · injection hv with hv _
    exact ⟨none, 0, 0, [], hv, Wd.nil_ W⟩
  · injection hv with hv _
    subst hv
    have hz : zs.length = cap := by simpa using hz
    have h0 : ∀ i, i < zs.length → 0 ≤ zs.getD i 0 ∧ zs.getD i 0 ≤ 4294967295 := by
      intro i hi
      have h1 := hwf (zs.getD i 0) (by rw [List.getD_eq_getElem?_getD, List.getElem?_eq_getElem hi]; simp)
      simpa [Lit.wf, IntKind.min, IntKind.max, IntKind.signed, IntKind.bits] using h1
    refine ⟨some a, len, cap, (zs.take len).map Int.toNat, rfl, ?_, ?_, hl, fun hn => ?_⟩
    · intro y hy
      obtain ⟨z, hz1, rfl⟩ := List.mem_map.1 hy
      obtain ⟨i, hi, he⟩ := List.getElem_of_mem hz1
      have hi2 : i < zs.length := by rw [List.length_take] at hi; omega
      have h1 := h0 i hi2
      rw [List.getD_eq_getElem?_getD, List.getElem?_eq_getElem hi2] at h1
      rw [List.getElem_take] at he
      simp only [Option.getD_some] at h1
      rw [he] at h1
      omega
    · rw [List.length_map, List.length_take]; omega
    · unfold Cell.okWide at hok
      rw [Tryd.underlying22] at hok
      unfold Cell.ok at hok
      rw [Tryd.underlying22] at hok
      obtain ⟨_, _, _, hs, row, cells, hsh, hli⟩ := hok
      unfold World.shape? at hsh
      split at hsh
      · rename_i cur el fr hb
        injection hsh with hsh; injection hsh with e1 e2
        subst e1
        obtain ⟨g, o, sp⟩ := a
        dsimp only at hs
        subst hs
        have hr : RowW W g cur fr := ⟨el, kt_of_lies hli, hb⟩
        refine ⟨g, o, cur, fr, rfl, hr, fun i hi => ?_⟩
        have h1 := hc i (by omega)
        have h2 := h0 i (by omega)
        have e3 : (⟨g, o, none⟩ : Addr).add i = ⟨g, o + i, none⟩ := by unfold Addr.add; by_cases hi0 : i = 0 <;> simp [hi0]
        rw [e3, hr.cell] at h1
        rw [h1]
        have e4 : wd ((zs.take len).map Int.toNat) i = (zs.getD i 0).toNat := by
          unfold wd
          rw [List.getD_eq_getElem?_getD, List.getElem?_map, List.getElem?_take, if_pos hi, List.getD_eq_getElem?_getD]
          rcases zs[i]? with _ | z <;> rfl
        rw [e4, Int.toNat_of_nonneg h2.1]
      · cases hsh
set_option maxRecDepth 100000 in
/-- The cells' types of a struct that came in. -/
theorem cells_ok {t : TypeId} {fs : Array Field} {ts : List TypeId} {v : Value} (hu : Tryd.prog.underlying t = some (.struct fs)) (hts : Tryd.prog.cellTypes Tryd.prog.depth t = some ts) (hn : Tryd.prog.cellsOf t = ts.length) (h : Value.okWide Tryd.prog W .any base t v) :
    ∃ cs : Array Value, v = .agg cs ∧ cs.size = ts.length ∧ ∀ (i : Nat) (v : Value) (u : TypeId), cs[i]? = some v → ts[i]? = some u → Cell.okWide Tryd.prog W .any base u v := by
  unfold Value.okWide at h
  rw [hu] at h
  obtain ⟨cs, rfl, hsz, ts', hts', _, hc⟩ := h
  rw [hts] at hts'
  injection hts' with e
  subst e
  rw [hn] at hsz
  refine ⟨cs, rfl, hsz, fun i v u hi hu => ?_⟩
  obtain ⟨u', h1, h2⟩ := hc i v hi
  have hlt : i < ts.length := by rw [← hsz]; exact (Array.getElem?_eq_some_iff.1 hi).1
  rw [Nat.mod_eq_of_lt hlt, hu] at h1
  injection h1 with h1
  subst h1
  exact h2
set_option maxRecDepth 100000 in
theorem whole_open {v : Value} {d : DataW H} {p : List MemPlace} (hok : Value.okWide Tryd.prog W .any base 24 v) (h : DataW.Trod enc Tryd.prog W 0 (fun _ => true) true 24 v d p) :
    ∃ b A n c z k, v = .agg #[.bool b, .slice A n c] ∧ IZ W b A n c z k := by
  obtain ⟨cs, rfl, hsz, hc⟩ := cells_ok (ts := [4, 22]) Tryd.underlying24 (by kernel_rfl) (by kernel_rfl) hok
  obtain ⟨fuel, ht⟩ := h
  match cs, hsz with
  | ⟨[v0, v1]⟩, _ =>
    have o1 : Cell.okWide Tryd.prog W .any base 22 v1 := hc 1 v1 _ rfl rfl
    have ht' : DataW.trod enc Tryd.prog W 0 (fun _ => true) true fuel 24 [v0, v1] = some (d, p) := ht
    obtain ⟨xs, n, _, _, _, hxl, hf⟩ := DataW.trod_struct Tryd.underlying24 ht'
    have f0 : DataW.trod enc Tryd.prog W 0 (fun _ => true) true n 4 (List.take (Tryd.prog.cellsOf 4) [v0, v1]) = xs[0]? := hf 0 _ rfl
    have f1 : DataW.trod enc Tryd.prog W 0 (fun _ => true) true n 22 (List.take (Tryd.prog.cellsOf 22) [v1]) = xs[1]? := hf 1 _ rfl
    have c1 : Tryd.prog.cellsOf 22 = 1 := by kernel_rfl
    have c0 : Tryd.prog.cellsOf 4 = 1 := by kernel_rfl
    try dsimp only at f0 f1
    rw [c0] at f0
    rw [c1] at f1
    have hx0 : xs.length = 2 := hxl
    rw [List.getElem?_eq_getElem (show 0 < xs.length by omega)] at f0
    rw [List.getElem?_eq_getElem (show 1 < xs.length by omega)] at f1
    obtain ⟨b, hb, _⟩ := DataW.trod_bool Tryd.underlying4 f0
    obtain ⟨A, n1, cc, l, rfl, h1⟩ := words_open o1 f1
    injection hb with hb _
    subst hb
    exact ⟨b, A, n1, cc, _, n1, rfl, l, h1, rfl, Nat.le_refl _⟩
end
theorem g_pow : Tryd.prog.globalNamed "internal/strconv.uint64pow10" = some 0 := by kernel_rfl
theorem ty_pow : (Tryd.prog.globals[0]?).map (·.type) = some 104 := by kernel_rfl
theorem cells_pow : Tryd.prog.cellsOf 104 = 20 := by kernel_rfl
theorem cells_u64 : Tryd.prog.cellsOf 63 = 1 := by kernel_rfl
theorem pow_data {H : Type} : (Rows.laid_internal_strconv_uint64pow10 : DataW H) = Lib.tabData .u64 Lib.pow10Tab := by kernel_rfl
/-- What the row's list gives: the powers of ten. -/
theorem tab_of_laid {W : World} (h : laidMet Tryd.prog [("math/bits.deBruijn32tab", Rows.laid_math_bits_deBruijn32tab), ("math/bits.deBruijn64tab", Rows.laid_math_bits_deBruijn64tab), ("internal/strconv.uint64pow10", Rows.laid_internal_strconv_uint64pow10)] W) : Tab W := by
  obtain ⟨ps, ⟨_, _, _, _, _, _, _, _, _, _, ⟨_, _, _, _, _, _, _, _, _, _, ⟨g, t, cs, f, p, q, hg, ht, hv, hd, _, _⟩, _⟩, _⟩, _, _⟩ := h
  obtain rfl := Option.some.inj (g_pow.symm.trans hg)
  obtain rfl := Option.some.inj (ty_pow.symm.trans ht)
  rw [pow_data] at hd
  unfold Tab Lib.TabIs
  rw [hv, ← Lib.cells_of_tab Tryd.underlying104 Tryd.underlying63 cells_u64 cells_pow hd]
/-- A world in which the tables lie. -/
noncomputable def laidWorld (os : Os) : World :=
  let w0 := World.holding Tryd.prog os ⟨#[], #[], []⟩
  { w0 with heap := ((w0.heap.modify 0 fun
      | .cells _ t frozen => .cells #[.int .u64 1, .int .u64 10, .int .u64 100, .int .u64 1000, .int .u64 10000, .int .u64 100000, .int .u64 1000000, .int .u64 10000000, .int .u64 100000000, .int .u64 1000000000, .int .u64 10000000000, .int .u64 100000000000, .int .u64 1000000000000, .int .u64 10000000000000, .int .u64 100000000000000, .int .u64 1000000000000000, .int .u64 10000000000000000, .int .u64 100000000000000000, .int .u64 1000000000000000000, .int .u64 10000000000000000000] t frozen
      | o => o).modify 2 fun
      | .cells _ t frozen => .cells #[.int .u8 0, .int .u8 1, .int .u8 28, .int .u8 2, .int .u8 29, .int .u8 14, .int .u8 24, .int .u8 3, .int .u8 30, .int .u8 22, .int .u8 20, .int .u8 15, .int .u8 25, .int .u8 17, .int .u8 4, .int .u8 8, .int .u8 31, .int .u8 27, .int .u8 13, .int .u8 23, .int .u8 21, .int .u8 19, .int .u8 16, .int .u8 7, .int .u8 26, .int .u8 12, .int .u8 18, .int .u8 6, .int .u8 11, .int .u8 5, .int .u8 10, .int .u8 9] t frozen
      | o => o).modify 3 fun
      | .cells _ t frozen => .cells #[.int .u8 0, .int .u8 1, .int .u8 56, .int .u8 2, .int .u8 57, .int .u8 49, .int .u8 28, .int .u8 3, .int .u8 61, .int .u8 58, .int .u8 42, .int .u8 50, .int .u8 38, .int .u8 29, .int .u8 17, .int .u8 4, .int .u8 62, .int .u8 47, .int .u8 59, .int .u8 36, .int .u8 45, .int .u8 43, .int .u8 51, .int .u8 22, .int .u8 53, .int .u8 39, .int .u8 33, .int .u8 30, .int .u8 24, .int .u8 18, .int .u8 12, .int .u8 5, .int .u8 63, .int .u8 55, .int .u8 48, .int .u8 27, .int .u8 60, .int .u8 41, .int .u8 37, .int .u8 16, .int .u8 46, .int .u8 35, .int .u8 44, .int .u8 21, .int .u8 52, .int .u8 32, .int .u8 23, .int .u8 11, .int .u8 54, .int .u8 26, .int .u8 40, .int .u8 15, .int .u8 34, .int .u8 20, .int .u8 31, .int .u8 10, .int .u8 25, .int .u8 14, .int .u8 19, .int .u8 9, .int .u8 13, .int .u8 8, .int .u8 7, .int .u8 6] t frozen
      | o => o }
theorem own_knob : ownKnob Tryd.prog.godebug = none := by kernel_rfl
theorem laid_out : laidOutB Tryd.prog = true := by kernel_rfl
end Go.Proofs.YtkehcfclggmblaaDoor
