/- FractionComputes: sums, products, quotients, comparisons are those of the reference; for every input the law returns true. The listed library variables are tied to the program text. -/
import Derived.BigQuiet
import Derived.Deep.RegionHeld3
import Derived.Deep.DrawnRows
import Derived.ChangeMaps5
import Derived.Test.YtkpjhmpjihchpaaGreatDoorPL1
set_option linter.unusedVariables false
set_option maxHeartbeats 8000000
set_option maxRecDepth 100000
namespace Go.Proofs.YtkpjhmpjihchpaaGreatDoor
open Go Go.RowKit Bn
attribute [local go_sem ↓] Go.wp_at_zero Go.wp_at_succ
theorem r_times_c (w : World) (A : Option Addr) (n c : Nat) (l : List Nat) (wa : Wd w A n c l) (hn : n ≤ 1099511627776) (A' : Option Addr) (n' c' : Nat) (l' : List Nat) (wb : Wd w A' n' c' l') (hn' : n' ≤ 1099511627776) :
    Calls Tryz.prog 148 #[.slice A n c, .slice A' n' c'] w (RetL w (digs (val l * val l'))) := by
  have HL := Lib.hid wa.2.1
  have HL' := Lib.hid wb.2.1
  go_enter Tryz.func148, Tryz.ntmps148
  go_wp2_with (at_make; refine wpList_make_words _ rfl _ _ rfl _ _ _ _ (n + n') rfl rfl (by omega) (by omega) (by omega) ?_)
  go_loopw [18] (fun iv wr => ∃ (i : Nat) (L : List Nat), i ≤ n ∧ iv = .int .i64 (i : Nat) ∧ L.length = n + n' ∧ TimesO l l' L (n + n') n' i ∧ Blk wr w.heap.size 102 (cellsOf L) ∧ Below w.heap.size w wr) (fun iv _ => n - (intOf iv).toNat)
  case atStart =>
    refine ⟨0, List.replicate (n + n') 0, Nat.zero_le _, rfl, by simp, ⟨by intro x hx; rw [List.eq_of_mem_replicate hx]; omega, fun j _ => ?_, ?_⟩, Blk.new _ _ _, (Below.refl _ _).alloc (Nat.le_refl _) _⟩
    · unfold wd; by_cases hj : j < n + n' <;> simp [List.getD, hj]
    · rw [Sm]
      have : ∀ m, Sm (wd (List.replicate (n + n') 0)) m = 0 := by
        intro m
        induction m with
        | zero => rfl
        | succ m ih =>
          rw [Sm, ih]
          unfold wd; by_cases hj : m < n + n' <;> simp [List.getD, hj]
      rw [this]; simp
  case round =>
    obtain ⟨i, L, hi, rfl, hLM, hI, hB, hbel⟩ := hrel
    have hKp := Lib.hid ((Kp.refl w).below hbel)
    have HI := Lib.hid hI
    have HB := Lib.hid hB
    have HLM := Lib.hid hLM
    clear hI hB hLM
    by_cases hkM : i < n
    · obtain ⟨x, hx⟩ : ∃ x, wd l i = x := ⟨_, rfl⟩
      have hx1 : x < 4294967296 := by rw [← hx]; exact wa.lt i
      have HX := Lib.hid hx
      clear hx
      go_wp2_with fail
      obtain ⟨wo, hwo⟩ : ∃ wo : World, wo = wr := ⟨_, rfl⟩
      have HWO := Lib.hid hwo
      clear hwo
      go_loopw [7, 23] (fun cv kv w2 => ∃ (k cr : Nat) (L2 : List Nat), k ≤ n' ∧ kv = .int .i64 (k : Nat) ∧ cv = .int .u64 (cr : Nat) ∧ cr < 4294967296 ∧ L2.length = n + n' ∧ TimesN l l' L2 (n + n') n' i x k cr ∧ Blk w2 w.heap.size 102 (cellsOf L2) ∧ Below w.heap.size w w2) (fun _ kv _ => n' - (intOf kv).toNat)
      case atStart => exact ⟨0, 0, L, Nat.zero_le _, rfl, rfl, by omega, HLM.out, ⟨HI.out.1, HI.out.2.1, by rw [HI.out.2.2]; simp [Sm]⟩, HB.out, hbel⟩
      case round =>
        obtain ⟨k, cr, L2, hk, rfl, rfl, hcr, hLM2, hI2, hB2, hbel2⟩ := hrel
        have hKp2 := Lib.hid ((Kp.refl w).below hbel2)
        have HI2 := Lib.hid hI2
        have HB2 := Lib.hid hB2
        have HLM2 := Lib.hid hLM2
        clear hI2 hB2 hLM2
        by_cases hkk : k < n'
        · obtain ⟨g2, o2, rfl, hgl2, hc2⟩ := (wb.keep hKp2.out).at2 (by omega)
          obtain ⟨g, o, rfl, hgl, hc1⟩ := (wa.keep hKp2.out).at2 (by omega)
          have hcx := hc1 i hkM
          rw [HX.out] at hcx
          clear hc1
          have hcy := hc2 k hkk
          obtain ⟨y, z, hy, hz⟩ : ∃ y z, wd l' k = y ∧ wd L2 (i + k) = z := ⟨_, _, rfl, rfl⟩
          have hy1 : y < 4294967296 := by rw [← hy]; exact wb.lt k
          have hz1 : z < 4294967296 := by rw [← hz]; exact wd_lt HI2.out.1 _
          rw [hy] at hcy
          have hck := HB2.out.cell (i + k)
          rw [cellsOf_get (by rw [HLM2.out]; omega), hz] at hck
          have hfk := HB2.out.frozen (i + k)
          have HY := Lib.hid hy
          have HZ := Lib.hid hz
          clear hy hz hc2
          obtain ⟨p, hp⟩ : ∃ d, IntKind.u64.wrap ((x : Int) * (y : Int)) = d := ⟨_, rfl⟩
          obtain ⟨q, hq⟩ : ∃ d, IntKind.u64.wrap (p + (z : Int)) = d := ⟨_, rfl⟩
          obtain ⟨s, hs⟩ : ∃ d, IntKind.u64.wrap (q + (cr : Int)) = d := ⟨_, rfl⟩
          have HD := Lib.hid (times_word hx1 hy1 hz1 hcr hp hq (show IntKind.u64.wrap ((cr : Int) + q) = s by rw [Int.add_comm]; exact hs))
          go_wp2
          go_quiet (fail)
          go_wp2
          obtain ⟨es, hs2⟩ := HD.out
          clear hp hq hs
          go_roundw
          case rel =>
            refine ⟨k + 1, (cr + x * y + z) / 4294967296, L2.set (i + k) ((cr + x * y + z) % 4294967296), by omega, by go_num, by rw [es]; go_num, hs2, by rw [List.length_set]; exact HLM2.out, ⟨wds_set HI2.out.1 _ (Nat.mod_lt _ (by omega)), ?_, ?_⟩, ?_, (below_drewN hbel2 _).setCell (Nat.le_refl _) _⟩
            · intro j hj; rw [wd_set, if_neg (by omega)]; exact HI2.out.2.1 j hj
            · have hm := Sm_set_mid L2 (i + k) ((cr + x * y + z) % 4294967296) (n + n') (by rw [HLM2.out]; omega) (by omega)
              rw [HZ.out] at hm
              have ht := times_step (o := z) (x := x) (y := y) (Sb := Sm (wd l') k) (Pi := 4294967296 ^ i) (Pk := 4294967296 ^ k) HI2.out.2.2 (by rw [Nat.pow_add]) hm
              rw [← Nat.add_assoc, Nat.pow_succ, Sm, HY.out]
              exact ht
            · exact (HB2.out.below (below_drewN (brefl _) _) HB2.out.lt).setW (i + k) _ _ (by rw [es]; omega)
          case measure => simp [intOf]; omega
        · have hk2 : k = n' := by omega
          have HK2 := Lib.hid hk2
          have hck := HB2.out.cell (i + n')
          have hz : wd L2 (i + n') = 0 := HI2.out.2.1 _ (by omega)
          rw [cellsOf_get (by rw [HLM2.out]; omega), hz] at hck
          have hfk := HB2.out.frozen (i + n')
          have hge : n' ≤ k := by omega
          clear hk2 hkk hz
          go_wp2
          go_roundw
          case rel =>
            refine ⟨i + 1, L2.set (i + n') cr, by omega, by go_num, by rw [List.length_set]; exact HLM2.out, ⟨wds_set HI2.out.1 _ hcr, ?_, ?_⟩, ?_, hbel2.setCell (Nat.le_refl _) _⟩
            · intro j hj; rw [wd_set, if_neg (by omega)]; exact HI2.out.2.1 j (by omega)
            · have hm := Sm_set_mid L2 (i + n') cr (n + n') (by rw [HLM2.out]; omega) (by omega)
              rw [HI2.out.2.1 _ (by omega), Nat.zero_mul, Nat.add_zero] at hm
              have h2 := HI2.out.2.2
              rw [HK2.out, Sm_ge l' (by rw [← HL'.out]; exact Nat.le_refl _)] at h2
              rw [hm, h2, Sm, HX.out, Nat.add_mul]
              congr 1
              rw [Nat.mul_assoc, Nat.mul_comm (val l'), ← Nat.mul_assoc]
            · exact HB2.out.setW (i + n') _ _ rfl
          case measure => simp [intOf]; omega
    · have hkk : i = n := by omega
      subst hkk
      have hv2 : val L = val l * val l' := by
        have h1 := HI.out.2.2
        rw [Sm_ge L (by rw [HLM.out]; exact Nat.le_refl _), Sm_ge l (by rw [← HL.out]; omega)] at h1
        exact h1
      have HV2 := Lib.hid hv2
      clear hv2
      go_wp2_with fail
      refine (r_trim_c _ _ (i + n') (i + n') L ?_ ?_).mono ?_
      · exact HB.out.wdN HI.out.1 HLM.out
      · omega
      rintro e w1 ⟨A1, n1, c1, rfl, h1, hb1⟩
      go_wp2
      go_ret
      rw [HV2.out] at h1
      exact ⟨_, _, _, rfl, h1, hbel.trans (hb1.mono hbel.size)⟩
theorem r_mul_C (w : World) (b : Bool) (A : Option Addr) (n c : Nat) (l : List Nat) (wa : Wd w A n c l) (hn : n ≤ 500000000000) (b' : Bool) (A' : Option Addr) (n' c' : Nat) (l' : List Nat) (wb : Wd w A' n' c' l') (hn' : n' ≤ 500000000000) :
    Calls Tryz.prog 112 #[.agg #[.bool b, .slice A n c], .agg #[.bool b', .slice A' n' c']] w (RetW w (wh (WD.z ⟨b, l⟩ * WD.z ⟨b', l'⟩))) := by
  have HL := Lib.hid wa.2.1
  have HL' := Lib.hid wb.2.1
  go_enter Tryz.func112, Tryz.ntmps112
  go_wp2_with fail
  have b0 : Below w.heap.size w (((w.alloc (.cells #[.bool b, .slice A n c] 46)).alloc (.cells #[.bool b', .slice A' n' c'] 46)).alloc (.cells #[.bool false, .slice none 0 0] 46)) := ((((Below.refl _ _).alloc (Nat.le_refl _) _).alloc (by simp) _).alloc (by simp; omega) _)
  generalize hW0 : (((w.alloc (.cells #[.bool b, .slice A n c] 46)).alloc (.cells #[.bool b', .slice A' n' c'] 46)).alloc (.cells #[.bool false, .slice none 0 0] 46)) = W0 at b0 ⊢
  have c00 : W0.cell? ⟨w.heap.size, 0, none⟩ = some (.bool b) := by subst hW0; simp [go_sem]
  have f00 : W0.frozen? ⟨w.heap.size, 0, none⟩ = false := by subst hW0; simp [go_sem]
  have c01 : W0.cell? ⟨w.heap.size, 1, none⟩ = some (.slice A n c) := by subst hW0; simp [go_sem]
  have f01 : W0.frozen? ⟨w.heap.size, 1, none⟩ = false := by subst hW0; simp [go_sem]
  have c10 : W0.cell? ⟨w.heap.size + 1, 0, none⟩ = some (.bool b') := by subst hW0; simp [go_sem]
  have f10 : W0.frozen? ⟨w.heap.size + 1, 0, none⟩ = false := by subst hW0; simp [go_sem]
  have c11 : W0.cell? ⟨w.heap.size + 1, 1, none⟩ = some (.slice A' n' c') := by subst hW0; simp [go_sem]
  have f11 : W0.frozen? ⟨w.heap.size + 1, 1, none⟩ = false := by subst hW0; simp [go_sem]
  have c20 : W0.cell? ⟨w.heap.size + 1 + 1, 0, none⟩ = some (.bool false) := by subst hW0; simp [go_sem]
  have f20 : W0.frozen? ⟨w.heap.size + 1 + 1, 0, none⟩ = false := by subst hW0; simp [go_sem]
  have c21 : W0.cell? ⟨w.heap.size + 1 + 1, 1, none⟩ = some (.slice none 0 0) := by subst hW0; simp [go_sem]
  have f21 : W0.frozen? ⟨w.heap.size + 1 + 1, 1, none⟩ = false := by subst hW0; simp [go_sem]
  have x0 : Box W0 w.heap.size 46 := by subst hW0; exact ((boxAt _ _ _ (by simp)).alloc _).alloc _
  have x1 : Box W0 (w.heap.size + 1) 46 := by subst hW0; exact (boxAt _ _ _ (by simp)).alloc _
  have x2 : Box W0 (w.heap.size + 1 + 1) 46 := by subst hW0; exact boxAt _ _ _ (by simp)
  have hm0 : Made (w.heap.size + 1 + 1) (w.heap.size + 1 + 1 + 1) 2 W0 := by subst hW0; exact made1 (by simp)
  have hs0 : w.heap.size + 1 + 1 + 1 ≤ W0.heap.size := by subst hW0; simp
  clear hW0
  have wa := wa.belw b0
  have wb := wb.belw b0
  have r0 : Below W0.heap.size W0 W0 := brefl _
  have hRB : w.heap.size + 1 + 1 ≤ w.heap.size + 1 + 1 + 1 := by omega
  go_region_held3 (fun w' => Sees (w.heap.size + 1 + 1) W0 w') (first | exact Sees.of (Nat.le_trans hRB hs0) (by assumption) | exact Sees.of (Nat.le_trans hRB hs0) (below_drewN (by assumption) _) | exact (Sees.set (Sees.of (Nat.le_trans hRB hs0) (by assumption)) (by simp)) | exact (Sees.set (Sees.set (Sees.of (Nat.le_trans hRB hs0) (by assumption)) (by simp)) (by simp)))
    (first
      | (go_at_call 135; (with_reducible refine (r_neg_c _ b A n c l ?_ ?_).mono ?_); (exact wa); (omega); rintro e w1 ⟨rfl, hb1⟩; replace hb1 := bnext (below_drewN (brefl _) 1) hb1; have r1 := bnext r0 hb1; replace wa := wa.belw hb1; replace wb := wb.belw hb1)
      | (go_at_call 135; (with_reducible refine (r_neg_c _ b' A' n' c' l' ?_ ?_).mono ?_); (exact wb); (omega); rintro e w2 ⟨rfl, hb2⟩; have r2 := bnext r1 hb2; replace wa := wa.belw hb2; replace wb := wb.belw hb2)
      | (go_at_call 134; (with_reducible refine (r_mag_c _ b A n c l ?_ ?_).mono ?_); (exact wa); (omega); rintro e w3 ⟨A1, n1, c1, rfl, h1, hb3⟩; have r3 := bnext r2 hb3; replace wa := wa.belw hb3; replace wb := wb.belw hb3)
      | (go_at_call 134; (with_reducible refine (r_mag_c _ b' A' n' c' l' ?_ ?_).mono ?_); (exact wb); (omega); rintro e w4 ⟨A2, n2, c2, rfl, h2, hb4⟩; have r4 := bnext r3 hb4; replace wa := wa.belw hb4; replace wb := wb.belw hb4; replace h1 := h1.belw hb4)
      | (go_at_call 148; (with_reducible refine (r_times_c _ A1 n1 c1 (WD.m ⟨b, l⟩) ?_ ?_ A2 n2 c2 (WD.m ⟨b', l'⟩) ?_ ?_).mono ?_); (exact h1); (exact Nat.le_trans (h1.m_len (by rw [← HL.out]; exact hn)) (by decide)); (exact h2); (exact Nat.le_trans (h2.m_len (by rw [← HL'.out]; exact hn')) (by decide)); rintro e w5 ⟨A3, n3, c3, rfl, h3, hb5⟩; have r5 := bnext r4 hb5; replace wa := wa.belw hb5; replace wb := wb.belw hb5; replace h1 := h1.belw hb5; replace h2 := h2.belw hb5)
      | (go_at_call 133; (with_reducible refine (r_form_e _ (!(WD.s ⟨b, l⟩ == WD.s ⟨b', l'⟩)) A3 n3 c3 (digs (val (WD.m ⟨b, l⟩) * val (WD.m ⟨b', l'⟩))) (WD.z ⟨b, l⟩ * WD.z ⟨b', l'⟩) ?_ ?_ ?_).mono ?_); (exact h3); (rw [h3.2.1]; exact times_len h1 h2 (Nat.le_trans (Nat.add_le_add (h1.m_len (by rw [← HL.out]; exact hn)) (h2.m_len (by rw [← HL'.out]; exact hn'))) (by decide))); (rw [val_digs]; exact (z_mul _ _).symm); rintro e w6 ⟨A4, n4, c4, rfl, h4, hb6⟩; have r6 := bnext r5 hb6; replace wa := wa.belw hb6; replace wb := wb.belw hb6; replace h1 := h1.belw hb6; replace h2 := h2.belw hb6; replace h3 := h3.belw hb6; obtain ⟨⟨sc, sf⟩, sr, sz⟩ := Seen.of (by omega) hs0 hm0 r6))
  clear hRB
  go_wp2_with fail
  refine bodyPost_ret (v := .agg #[.bool _, .slice A4 n4 c4]) (by simp [results, Tryz.results112, go_sem, sr]; rfl) rfl ?_
  have x := x2.below r6
  refine retW ?_ ?_ ?_
  · rfl
  · exact h4.keep (kp2 x (by decide) _ _ _ _)
  · exact ((b0.trans (r6.mono b0.size)).setCell (by dsimp only; omega) _).setCell (by dsimp only; omega) _
end Go.Proofs.YtkpjhmpjihchpaaGreatDoor

namespace Go.Proofs.YtkpjhmpjihchpaaGreatDoor
open Go Go.RowKit Bn
theorem r01_mul (w : World) (b : Bool) (A : Option Addr) (n c : Nat) (z : Int) (k : Nat) (h : IZ w b A n c z k) (b' : Bool) (A' : Option Addr) (n' c' : Nat) (z' : Int) (k' : Nat) (h' : IZ w b' A' n' c' z' k') (hk : k + k' ≤ 1000000000) : Calls Tryz.prog 112 #[.agg #[.bool b, .slice A n c], .agg #[.bool b', .slice A' n' c']] w (RetI w (z * z') (k + k')) := by
  have hz := h.lt
  have hz' := h'.lt
  obtain ⟨l, h1, rfl, h3⟩ := h
  obtain ⟨l', h1', rfl, h3'⟩ := h'
  exact (r_mul_C w b A n c l h1 (by omega) b' A' n' c' l' h1' (by omega)).mono fun _ _ r => r.i (natAbs_mul_lt hz hz')
end Go.Proofs.YtkpjhmpjihchpaaGreatDoor

namespace Go.Proofs.YtkpjhmpjihchpaaGreatDoor
open Go Go.RowKit Bn
attribute [local go_sem ↓] Go.wp_at_zero Go.wp_at_succ
theorem g_neg (w : World) (b : Bool) (A : Option Addr) (n c : Nat) (D : Option Addr) (m e : Nat) (q : Rat) (k : Nat) (h : QZ w b A n c D m e q k) (h0 : 0 < k) (hk : k ≤ 40000000) :
    Calls Tryz.prog 63 #[.agg #[.bool b, .slice A n c, .slice D m e]] w (RetF w (-q) k) := by
  have HS := Lib.hid (h.sz h0)
  go_enter Tryz.func63, Tryz.ntmps63
  go_wp2_with fail
  (with_reducible refine (g_parts _ b A n c D m e (q) (k) ?_ ?_ ?_).mono ?_); (exact (h.belw (((Below.refl _ _).alloc (Nat.le_refl _) _).alloc (by simp) _))); (first | omega | decide | assumption); (first | omega | decide | assumption); rintro e w1 ⟨b1, A1, n1, c1, b'1, A'1, n'1, c'1, rfl, h1, h'1, hb1⟩
  have q1 := (((Below.refl _ _).alloc (Nat.le_refl _) _).alloc (by simp) _).trans (hb1.mono (by simp <;> omega))
  replace h := h.belw q1
  have x1a : Blk w1 w.heap.size 24 #[.bool b, .slice A n c, .slice D m e] := ((blkAt _ _ _ (by simp)).alloc _).below hb1 (by simp <;> omega)
  have x1b := (blkAt _ _ _ (g := w.heap.size + 1) (by simp)).below hb1 (by simp)
  have bw1 := (brefl w).trans (q1.mono (brefl w).size)
  have lw1 : w.heap.size + 2 ≤ w1.heap.size := by have := hb1.size; simp at this; omega
  clear q1
  go_wp2_with fail
  have p2 := (((Kp.refl w1).alloc (.cells #[.bool b1, .slice A1 n1 c1] 46)).alloc (.cells #[.bool b'1, .slice A'1 n'1 c'1] 46))
  have bw2 := ((bw1.alloc (by first | omega | (simp <;> omega)) (.cells #[.bool b1, .slice A1 n1 c1] 46)).alloc (by first | omega | (simp <;> omega)) (.cells #[.bool b'1, .slice A'1 n'1 c'1] 46))
  have x2a : Blk ((w1.alloc (.cells #[.bool b1, .slice A1 n1 c1] 46)).alloc (.cells #[.bool b'1, .slice A'1 n'1 c'1] 46)) w1.heap.size 46 #[.bool b1, .slice A1 n1 c1] := ((blkAt _ _ _ (by simp)).alloc (.cells #[.bool b'1, .slice A'1 n'1 c'1] 46))
  have x2b : Blk ((w1.alloc (.cells #[.bool b1, .slice A1 n1 c1] 46)).alloc (.cells #[.bool b'1, .slice A'1 n'1 c'1] 46)) (w1.heap.size + 1) 46 #[.bool b'1, .slice A'1 n'1 c'1] := (blkAt _ _ _ (by simp))
  replace x1a := ((x1a.alloc (.cells #[.bool b1, .slice A1 n1 c1] 46)).alloc (.cells #[.bool b'1, .slice A'1 n'1 c'1] 46))
  replace x1b := ((x1b.alloc (.cells #[.bool b1, .slice A1 n1 c1] 46)).alloc (.cells #[.bool b'1, .slice A'1 n'1 c'1] 46))
  have lw2 : w1.heap.size + 2 ≤ ((w1.alloc (.cells #[.bool b1, .slice A1 n1 c1] 46)).alloc (.cells #[.bool b'1, .slice A'1 n'1 c'1] 46)).heap.size := by simp
  generalize hE2 : ((w1.alloc (.cells #[.bool b1, .slice A1 n1 c1] 46)).alloc (.cells #[.bool b'1, .slice A'1 n'1 c'1] 46)) = w2 at p2 bw2 lw2 x2a x2b x1a x1b ⊢
  clear hE2
  replace h := h.keep p2
  replace h1 := h1.keep p2
  replace h'1 := h'1.keep p2
  clear bw1
  obtain ⟨lx1aa, lx1ab, lx1ac, lx1ad⟩ := lts0 x1a.lt
  have cx1ba : w2.cell? ⟨w.heap.size + 1, 0, none⟩ = some (.bool false) := x1b.cell 0
  have fx1ba : w2.frozen? ⟨w.heap.size + 1, 0, none⟩ = false := x1b.frozen 0
  have cx1bb : w2.cell? ⟨w.heap.size + 1, 1, none⟩ = some (.slice none 0 0) := x1b.cell 1
  have fx1bb : w2.frozen? ⟨w.heap.size + 1, 1, none⟩ = false := x1b.frozen 1
  have cx1bc : w2.cell? ⟨w.heap.size + 1, 2, none⟩ = some (.slice none 0 0) := x1b.cell 2
  have fx1bc : w2.frozen? ⟨w.heap.size + 1, 2, none⟩ = false := x1b.frozen 2
  obtain ⟨lx1ba, lx1bb, lx1bc, lx1bd⟩ := lts1 x1b.lt
  obtain ⟨cx2aa, cx2ab⟩ := x2a.c2
  obtain ⟨lx2aa, lx2ab, lx2ac, lx2ad⟩ := lts0 x2a.lt
  obtain ⟨cx2ba, cx2bb⟩ := x2b.c2
  obtain ⟨lx2ba, lx2bb, lx2bc, lx2bd⟩ := lts1 x2b.lt
  have nfx1_0_0 : ¬ w.heap.size = w.heap.size + 1 := by omega
  have nex1_0_0 : ¬ w.heap.size = w.heap.size + 1 := by omega
  have nfx2_0_0 : ¬ w1.heap.size = w.heap.size + 1 := by omega
  have nex2_0_0 : ¬ w1.heap.size = w.heap.size + 1 := by omega
  have nfx2_1_0 : ¬ w1.heap.size + 1 = w.heap.size + 1 := by omega
  have nex2_1_0 : ¬ w1.heap.size = w.heap.size := by omega
  go_region_held3 (fun w' => SeesX w2.heap.size (w.heap.size + 1) w2 w') (first | with_reducible exact SeesX.of (Nat.le_refl _) (by assumption) | with_reducible exact SeesX.of (Nat.le_refl _) (brefl _).drew | with_reducible exact (SeesX.set (SeesX.set (SeesX.set (SeesX.of (Nat.le_refl _) (by assumption))))) | with_reducible exact (SeesX.set (SeesX.set (SeesX.of (Nat.le_refl _) (by assumption)))) | with_reducible exact (SeesX.set (SeesX.of (Nat.le_refl _) (by assumption))) | exact SeesX.of (Nat.le_refl _) (below_drewN (brefl _) 1) | exact SeesX.of (Nat.le_refl _) (below_drewN (by assumption) _))
    (first
      | (go_at_call 122; (with_reducible refine (r01_neg _ b1 A1 n1 c1 ((q).num) ((k)) ?_ ?_).mono ?_); (exact h1.iz); (first | omega | decide | assumption); rintro e w3 ⟨b3, A3, n3, c3, rfl, h3, hb3⟩; replace hb3 := bnext (below_drewN (brefl _) 1) hb3; have q3 : Below w2.heap.size w2 w3 := bnext (brefl w2) hb3; replace h := h.belw hb3; replace h1 := h1.belw hb3; replace h'1 := h'1.belw hb3)
      | (go_at_call 93; (with_reducible refine (g_form _ b3 A3 n3 c3 (-((q).num)) (((k))) ?_ b'1 A'1 n'1 c'1 (((q).den : Int)) ((k)) ?_ (-q) (k) ?_ ?_ ?_ ?_).mono ?_); (exact h3.iz); (exact h'1.iz); (exact den_ne _); (exact (neg_q q).symm); (exact Sz_neg HS.out); (omega); rintro e w4 ⟨b4, A4, n4, c4, A'4, n'4, c'4, rfl, h4, hb4⟩; have q4 : Below w2.heap.size w2 w4 := bnext q3 hb4; replace h := h.belw hb4; replace h1 := h1.belw hb4; replace h'1 := h'1.belw hb4; replace h3 := h3.belw hb4; have x1b := x1b.b q4; obtain ⟨cx1ba, cx1bb, cx1bc⟩ := x1b.c3; obtain ⟨fx1ba, fx1bb, fx1bc⟩ := x1b.f3))
  have bw4 := bw2.trans (q4.mono bw2.size)
  clear lx1aa lx1ab lx1ac lx1ad cx1ba fx1ba cx1bb fx1bb cx1bc fx1bc lx1ba lx1bb lx1bc lx1bd cx2aa cx2ab lx2aa lx2ab lx2ac lx2ad cx2ba cx2bb lx2ba lx2bb lx2bc lx2bd
  replace x1a := x1a.b q4
  replace x2a := x2a.b q4
  replace x2b := x2b.b q4
  have lw4 := q4.size
  obtain ⟨cx1ba, cx1bb, cx1bc⟩ := x1b.c3
  obtain ⟨fx1ba, fx1bb, fx1bc⟩ := x1b.f3
  go_wp2_with fail
  refine bodyPost_ret (v := .agg #[.bool b4, .slice A4 n4 c4, .slice A'4 n'4 c'4]) (by simp [results, Tryz.results63, go_sem, *] <;> first | rfl | exact ⟨rfl, rfl⟩) rfl ?_
  exact ⟨b4, A4, n4, c4, A'4, n'4, c'4, rfl, h4.keep ((((Kp.refl w4).sb (w.heap.size + 1) 0 x1b.box (by decide) (.bool b4)).sb (w.heap.size + 1) 1 (x1b.box.set ⟨w.heap.size + 1, 0, none⟩ (.bool b4)) (by decide) (.slice A4 n4 c4)).sb (w.heap.size + 1) 2 ((x1b.box.set ⟨w.heap.size + 1, 0, none⟩ (.bool b4)).set ⟨w.heap.size + 1, 1, none⟩ (.slice A4 n4 c4)) (by decide) (.slice A'4 n'4 c'4)), (((bw4.sc (w.heap.size + 1) 0 (by omega) (.bool b4)).sc (w.heap.size + 1) 1 (by omega) (.slice A4 n4 c4)).sc (w.heap.size + 1) 2 (by omega) (.slice A'4 n'4 c'4))⟩
theorem g_add (w : World) (b : Bool) (A : Option Addr) (n c : Nat) (D : Option Addr) (m e : Nat) (q : Rat) (k : Nat) (h : QZ w b A n c D m e q k) (b' : Bool) (A' : Option Addr) (n' c' : Nat) (D' : Option Addr) (m' e' : Nat) (q' : Rat) (k' : Nat) (h' : QZ w b' A' n' c' D' m' e' q' k') (h0 : 0 < k) (hk : k ≤ 40000000) (h0' : 0 < k') (hk' : k' ≤ 40000000) :
    Calls Tryz.prog 66 #[.agg #[.bool b, .slice A n c, .slice D m e], .agg #[.bool b', .slice A' n' c', .slice D' m' e']] w (RetF w (q + q') (k + k' + 1)) := by
  have HS := Lib.hid (h.sz h0)
  have HS' := Lib.hid (h'.sz h0')
  go_enter Tryz.func66, Tryz.ntmps66
  go_wp2_with fail
  (with_reducible refine (g_parts _ b A n c D m e (q) (k) ?_ ?_ ?_).mono ?_); (exact (h.belw ((((Below.refl _ _).alloc (Nat.le_refl _) _).alloc (by simp) _).alloc (by simp <;> omega) _))); (first | omega | decide | assumption); (first | omega | decide | assumption); rintro e w1 ⟨b1, A1, n1, c1, b'1, A'1, n'1, c'1, rfl, h1, h'1, hb1⟩
  have q1 := ((((Below.refl _ _).alloc (Nat.le_refl _) _).alloc (by simp) _).alloc (by simp <;> omega) _).trans (hb1.mono (by simp <;> omega))
  replace h := h.belw q1
  replace h' := h'.belw q1
  have x1a : Blk w1 w.heap.size 24 #[.bool b, .slice A n c, .slice D m e] := (((blkAt _ _ _ (by simp)).alloc _).alloc _).below hb1 (by simp <;> omega)
  have x1b := ((blkAt _ _ _ (g := w.heap.size + 1) (by simp)).alloc _).below hb1 (by simp <;> omega)
  have x1c := (blkAt _ _ _ (g := w.heap.size + 1 + 1) (by simp)).below hb1 (by simp)
  have bw1 := (brefl w).trans (q1.mono (brefl w).size)
  have lw1 : w.heap.size + 3 ≤ w1.heap.size := by have := hb1.size; simp at this; omega
  clear q1
  obtain ⟨cx1ba, cx1bb, cx1bc⟩ := x1b.c3
  obtain ⟨lx1ba, lx1bb, lx1bc, lx1bd⟩ := lts1 x1b.lt
  go_wp2_with fail
  (with_reducible refine (g_parts _ b' A' n' c' D' m' e' (q') (k') ?_ ?_ ?_).mono ?_); (exact (h'.belw (((Below.refl _ _).alloc (Nat.le_refl _) _).alloc (by simp) _))); (first | omega | decide | assumption); (first | omega | decide | assumption); rintro e w2 ⟨b2, A2, n2, c2, b'2, A'2, n'2, c'2, rfl, h2, h'2, hb2⟩
  clear cx1ba cx1bb cx1bc lx1ba lx1bb lx1bc lx1bd
  have q2 := (((Below.refl _ _).alloc (Nat.le_refl _) _).alloc (by simp) _).trans (hb2.mono (by simp <;> omega))
  replace h := h.belw q2
  replace h' := h'.belw q2
  replace h1 := h1.belw q2
  replace h'1 := h'1.belw q2
  replace x1a := x1a.b q2
  replace x1b := x1b.b q2
  replace x1c := x1c.b q2
  have x2a : Blk w2 w1.heap.size 46 #[.bool b1, .slice A1 n1 c1] := ((blkAt _ _ _ (by simp)).alloc _).below hb2 (by simp <;> omega)
  have x2b := (blkAt _ _ _ (g := w1.heap.size + 1) (by simp)).below hb2 (by simp)
  have bw2 := bw1.trans (q2.mono bw1.size)
  have lw2 : w1.heap.size + 2 ≤ w2.heap.size := by have := hb2.size; simp at this; omega
  clear q2 bw1
  go_wp2_with fail
  have p3 := (((Kp.refl w2).alloc (.cells #[.bool b2, .slice A2 n2 c2] 46)).alloc (.cells #[.bool b'2, .slice A'2 n'2 c'2] 46))
  have bw3 := ((bw2.alloc (by first | omega | (simp <;> omega)) (.cells #[.bool b2, .slice A2 n2 c2] 46)).alloc (by first | omega | (simp <;> omega)) (.cells #[.bool b'2, .slice A'2 n'2 c'2] 46))
  have x3a : Blk ((w2.alloc (.cells #[.bool b2, .slice A2 n2 c2] 46)).alloc (.cells #[.bool b'2, .slice A'2 n'2 c'2] 46)) w2.heap.size 46 #[.bool b2, .slice A2 n2 c2] := ((blkAt _ _ _ (by simp)).alloc (.cells #[.bool b'2, .slice A'2 n'2 c'2] 46))
  have x3b : Blk ((w2.alloc (.cells #[.bool b2, .slice A2 n2 c2] 46)).alloc (.cells #[.bool b'2, .slice A'2 n'2 c'2] 46)) (w2.heap.size + 1) 46 #[.bool b'2, .slice A'2 n'2 c'2] := (blkAt _ _ _ (by simp))
  replace x1a := ((x1a.alloc (.cells #[.bool b2, .slice A2 n2 c2] 46)).alloc (.cells #[.bool b'2, .slice A'2 n'2 c'2] 46))
  replace x1b := ((x1b.alloc (.cells #[.bool b2, .slice A2 n2 c2] 46)).alloc (.cells #[.bool b'2, .slice A'2 n'2 c'2] 46))
  replace x1c := ((x1c.alloc (.cells #[.bool b2, .slice A2 n2 c2] 46)).alloc (.cells #[.bool b'2, .slice A'2 n'2 c'2] 46))
  replace x2a := ((x2a.alloc (.cells #[.bool b2, .slice A2 n2 c2] 46)).alloc (.cells #[.bool b'2, .slice A'2 n'2 c'2] 46))
  replace x2b := ((x2b.alloc (.cells #[.bool b2, .slice A2 n2 c2] 46)).alloc (.cells #[.bool b'2, .slice A'2 n'2 c'2] 46))
  have lw3 : w2.heap.size + 2 ≤ ((w2.alloc (.cells #[.bool b2, .slice A2 n2 c2] 46)).alloc (.cells #[.bool b'2, .slice A'2 n'2 c'2] 46)).heap.size := by simp
  generalize hE3 : ((w2.alloc (.cells #[.bool b2, .slice A2 n2 c2] 46)).alloc (.cells #[.bool b'2, .slice A'2 n'2 c'2] 46)) = w3 at p3 bw3 lw3 x3a x3b x1a x1b x1c x2a x2b ⊢
  clear hE3
  replace h := h.keep p3
  replace h' := h'.keep p3
  replace h1 := h1.keep p3
  replace h'1 := h'1.keep p3
  replace h2 := h2.keep p3
  replace h'2 := h'2.keep p3
  clear bw2
  obtain ⟨cx2aa, cx2ab⟩ := x2a.c2
  obtain ⟨lx2aa, lx2ab, lx2ac, lx2ad⟩ := lts0 x2a.lt
  obtain ⟨cx2ba, cx2bb⟩ := x2b.c2
  obtain ⟨lx2ba, lx2bb, lx2bc, lx2bd⟩ := lts1 x2b.lt
  obtain ⟨cx3aa, cx3ab⟩ := x3a.c2
  obtain ⟨lx3aa, lx3ab, lx3ac, lx3ad⟩ := lts0 x3a.lt
  obtain ⟨cx3ba, cx3bb⟩ := x3b.c2
  obtain ⟨lx3ba, lx3bb, lx3bc, lx3bd⟩ := lts1 x3b.lt
  refine wp_region_lin (B := w.heap.size) (fr := fun xf => ⟨List.toArray (.agg #[.bool b, .slice A n c, .slice D m e] :: .agg #[.bool b', .slice A' n' c', .slice D' m' e'] :: .pointer (some ⟨w.heap.size, 0, none⟩) :: .pointer (some ⟨w.heap.size + 1, 0, none⟩) :: .pointer (some ⟨w.heap.size + 1 + 1, 0, none⟩) :: .pointer (some ⟨w1.heap.size, 0, none⟩) :: .pointer (some ⟨w1.heap.size + 1, 0, none⟩) :: .pointer (some ⟨w2.heap.size, 0, none⟩) :: .pointer (some ⟨w2.heap.size + 1, 0, none⟩) :: .tuple #[.agg #[.bool b1, .slice A1 n1 c1], .agg #[.bool b'1, .slice A'1 n'1 c'1]] :: .agg #[.bool b, .slice A n c, .slice D m e] :: .tuple #[.agg #[.bool b1, .slice A1 n1 c1], .agg #[.bool b'1, .slice A'1 n'1 c'1]] :: .agg #[.bool b1, .slice A1 n1 c1] :: .agg #[.bool b'1, .slice A'1 n'1 c'1] :: .tuple #[.agg #[.bool b2, .slice A2 n2 c2], .agg #[.bool b'2, .slice A'2 n'2 c'2]] :: .agg #[.bool b', .slice A' n' c', .slice D' m' e'] :: .tuple #[.agg #[.bool b2, .slice A2 n2 c2], .agg #[.bool b'2, .slice A'2 n'2 c'2]] :: .agg #[.bool b2, .slice A2 n2 c2] :: .agg #[.bool b'2, .slice A'2 n'2 c'2] :: xf 0 :: xf 1 :: xf 2 :: xf 3 :: xf 4 :: xf 5 :: xf 6 :: xf 7 :: xf 8 :: xf 9 :: xf 10 :: []), []⟩) (R := fun i => List.getD ((PEq (.agg #[.bool b1, .slice A1 n1 c1])) :: (PEq (.agg #[.bool b'2, .slice A'2 n'2 c'2])) :: (VI (((q).num) * (((q').den : Int))) (((k)) + ((k')))) :: (PEq (.agg #[.bool b2, .slice A2 n2 c2])) :: (PEq (.agg #[.bool b'1, .slice A'1 n'1 c'1])) :: (VI (((q').num) * (((q).den : Int))) (((k')) + ((k)))) :: (VI ((((q).num) * (((q').den : Int))) + (((q').num) * (((q).den : Int)))) ((((k)) + ((k'))) + (((k')) + ((k))) + 1)) :: (PEq (.agg #[.bool b'1, .slice A'1 n'1 c'1])) :: (PEq (.agg #[.bool b'2, .slice A'2 n'2 c'2])) :: (VI ((((q).den : Int)) * (((q').den : Int))) (((k)) + ((k')))) :: (VQ (q + q') (k + k' + 1)) :: PAny :: []) i (fun _ _ => True)) (es := []) (ow := [⟨w.heap.size, 12, 0, 24, #[.bool b, .slice A n c, .slice D m e], CAny⟩, ⟨w.heap.size + 1, 12, 0, 24, #[.bool b', .slice A' n' c', .slice D' m' e'], CAny⟩, ⟨w.heap.size + 1 + 1, 11, 0, 24, #[.bool false, .slice none 0 0, .slice none 0 0], CQ (q + q') (k + k' + 1)⟩, ⟨w1.heap.size, 12, 0, 46, #[.bool b1, .slice A1 n1 c1], CAny⟩, ⟨w1.heap.size + 1, 12, 0, 46, #[.bool b'1, .slice A'1 n'1 c'1], CAny⟩, ⟨w2.heap.size, 12, 0, 46, #[.bool b2, .slice A2 n2 c2], CAny⟩, ⟨w2.heap.size + 1, 12, 0, 46, #[.bool b'2, .slice A'2 n'2 c'2], CAny⟩]) (x0 := (fun _ => undef)) (by kernel_rfl)
    (each_of ⟨fun _ _ => rfl, fun _ _ => rfl, fun _ _ => rfl, fun _ _ => rfl, fun _ _ => rfl, fun _ _ => rfl, fun _ _ => rfl, fun _ _ => rfl, fun _ _ => rfl, fun _ _ => rfl, fun _ _ => rfl, fun _ _ => rfl, trivial⟩) (each_of (acyc_from _ 0 (by kernel_rfl))) (AllStab.get _ ⟨stEq _, stEq _, stI _ _, stEq _, stEq _, stI _ _, stI _ _, stEq _, stEq _, stI _ _, stQ _ _, stAny, trivial⟩)
    (fun _ h => nomatch h) (List.forall_mem_cons.2 ⟨scAny, List.forall_mem_cons.2 ⟨scAny, List.forall_mem_cons.2 ⟨scQ _ _, List.forall_mem_cons.2 ⟨scAny, List.forall_mem_cons.2 ⟨scAny, List.forall_mem_cons.2 ⟨scAny, List.forall_mem_cons.2 ⟨scAny, fun _ h => nomatch h⟩⟩⟩⟩⟩⟩⟩) (fun _ h => nomatch h) bw3.size
    (List.forall_mem_cons.2 ⟨⟨x1a, by show w.heap.size ≤ w.heap.size; omega⟩, List.forall_mem_cons.2 ⟨⟨x1b, by show w.heap.size ≤ w.heap.size + 1; omega⟩, List.forall_mem_cons.2 ⟨⟨x1c, by show w.heap.size ≤ w.heap.size + 1 + 1; omega⟩, List.forall_mem_cons.2 ⟨⟨x2a, by show w.heap.size ≤ w1.heap.size; omega⟩, List.forall_mem_cons.2 ⟨⟨x2b, by show w.heap.size ≤ w1.heap.size + 1; omega⟩, List.forall_mem_cons.2 ⟨⟨x3a, by show w.heap.size ≤ w2.heap.size; omega⟩, List.forall_mem_cons.2 ⟨⟨x3b, by show w.heap.size ≤ w2.heap.size + 1; omega⟩, fun _ h => nomatch h⟩⟩⟩⟩⟩⟩⟩) (ownDist (by simp <;> omega))
    (each_of ⟨?_, ?_, ?_, ?_, ?_, ?_, ?_, ?_, ?_, ?_, ?_, ?_, trivial⟩) ?_
  · exact .inl ⟨by simp, by simp, fun xf wq hk hbl hd K hK => by
      have y : Blk wq w1.heap.size 46 #[.bool b1, .slice A1 n1 c1] := hbl _ (List.Mem.tail _ (List.Mem.tail _ (List.Mem.tail _ (List.Mem.head _)))) (by simp [Region.binds])
      obtain ⟨hcl0, hcl1⟩ := y.c2
      (try dsimp only)
      go_simp
      exact hK.out (.agg #[.bool b1, .slice A1 n1 c1]) _ rfl (brefl _)⟩
  · exact .inl ⟨by simp, by simp, fun xf wq hk hbl hd K hK => by
      have y : Blk wq (w2.heap.size + 1) 46 #[.bool b'2, .slice A'2 n'2 c'2] := hbl _ (List.Mem.tail _ (List.Mem.tail _ (List.Mem.tail _ (List.Mem.tail _ (List.Mem.tail _ (List.Mem.tail _ (List.Mem.head _))))))) (by simp [Region.binds])
      obtain ⟨hcl0, hcl1⟩ := y.c2
      (try dsimp only)
      go_simp
      exact hK.out (.agg #[.bool b'2, .slice A'2 n'2 c'2]) _ rfl (brefl _)⟩
  · exact .inl ⟨by simp, by simp, fun xf wq hk hbl hd K hK => by
      have d0 : xf 0 = .agg #[.bool b1, .slice A1 n1 c1] := hd ⟨0, .data⟩ (by simp) rfl
      have d1 : xf 1 = .agg #[.bool b'2, .slice A'2 n'2 c'2] := hd ⟨1, .data⟩ (by simp) rfl
      (try dsimp only); (try simp only [d0, d1])
      go_simp
      go_at_call 112
      (with_reducible refine (r01_mul _ b1 A1 n1 c1 ((q).num) ((k)) ?_ b'2 A'2 n'2 c'2 (((q').den : Int)) ((k')) ?_ ?_).mono ?_); (exact (h1.keep hk).iz); (exact (h'2.keep hk).iz); (first | omega | decide | assumption); rintro e wr ⟨b5, A5, n5, c5, rfl, h5, hbr⟩
      have hz := hK.out _ _ ⟨b5, A5, n5, c5, rfl, h5⟩ hbr
      simp only [d0, d1] at hz
      exact hz⟩
  · exact .inl ⟨by simp, by simp, fun xf wq hk hbl hd K hK => by
      have y : Blk wq w2.heap.size 46 #[.bool b2, .slice A2 n2 c2] := hbl _ (List.Mem.tail _ (List.Mem.tail _ (List.Mem.tail _ (List.Mem.tail _ (List.Mem.tail _ (List.Mem.head _)))))) (by simp [Region.binds])
      obtain ⟨hcl0, hcl1⟩ := y.c2
      (try dsimp only)
      go_simp
      exact hK.out (.agg #[.bool b2, .slice A2 n2 c2]) _ rfl (brefl _)⟩
  · exact .inl ⟨by simp, by simp, fun xf wq hk hbl hd K hK => by
      have y : Blk wq (w1.heap.size + 1) 46 #[.bool b'1, .slice A'1 n'1 c'1] := hbl _ (List.Mem.tail _ (List.Mem.tail _ (List.Mem.tail _ (List.Mem.tail _ (List.Mem.head _))))) (by simp [Region.binds])
      obtain ⟨hcl0, hcl1⟩ := y.c2
      (try dsimp only)
      go_simp
      exact hK.out (.agg #[.bool b'1, .slice A'1 n'1 c'1]) _ rfl (brefl _)⟩
  · exact .inl ⟨by simp, by simp, fun xf wq hk hbl hd K hK => by
      have d3 : xf 3 = .agg #[.bool b2, .slice A2 n2 c2] := hd ⟨3, .data⟩ (by simp) rfl
      have d4 : xf 4 = .agg #[.bool b'1, .slice A'1 n'1 c'1] := hd ⟨4, .data⟩ (by simp) rfl
      (try dsimp only); (try simp only [d3, d4])
      go_simp
      go_at_call 112
      (with_reducible refine (r01_mul _ b2 A2 n2 c2 ((q').num) ((k')) ?_ b'1 A'1 n'1 c'1 (((q).den : Int)) ((k)) ?_ ?_).mono ?_); (exact (h2.keep hk).iz); (exact (h'1.keep hk).iz); (first | omega | decide | assumption); rintro e wr ⟨b6, A6, n6, c6, rfl, h6, hbr⟩
      have hz := hK.out _ _ ⟨b6, A6, n6, c6, rfl, h6⟩ hbr
      simp only [d3, d4] at hz
      exact hz⟩
  · exact .inl ⟨by simp, by simp, fun xf wq hk hbl hd K hK => by
      obtain ⟨b5, A5, n5, c5, d2, h5⟩ : VI (((q).num) * (((q').den : Int))) (((k)) + ((k'))) (xf 2) wq := hd ⟨2, .data⟩ (by simp) rfl
      obtain ⟨b6, A6, n6, c6, d5, h6⟩ : VI (((q').num) * (((q).den : Int))) (((k')) + ((k))) (xf 5) wq := hd ⟨5, .data⟩ (by simp) rfl
      (try dsimp only); (try simp only [d2, d5])
      go_simp
      go_at_call 110
      (with_reducible refine (r01_add _ b5 A5 n5 c5 (((q).num) * (((q').den : Int))) (((k)) + ((k'))) ?_ b6 A6 n6 c6 (((q').num) * (((q).den : Int))) (((k')) + ((k))) ?_ ?_).mono ?_); (exact h5.iz); (exact h6.iz); (first | omega | decide | assumption); rintro e wr ⟨b7, A7, n7, c7, rfl, h7, hbr⟩
      have hz := hK.out _ _ ⟨b7, A7, n7, c7, rfl, h7⟩ hbr
      simp only [d2, d5] at hz
      exact hz⟩
  · exact .inl ⟨by simp, by simp, fun xf wq hk hbl hd K hK => by
      have y : Blk wq (w1.heap.size + 1) 46 #[.bool b'1, .slice A'1 n'1 c'1] := hbl _ (List.Mem.tail _ (List.Mem.tail _ (List.Mem.tail _ (List.Mem.tail _ (List.Mem.head _))))) (by simp [Region.binds])
      obtain ⟨hcl0, hcl1⟩ := y.c2
      (try dsimp only)
      go_simp
      exact hK.out (.agg #[.bool b'1, .slice A'1 n'1 c'1]) _ rfl (brefl _)⟩
  · exact .inl ⟨by simp, by simp, fun xf wq hk hbl hd K hK => by
      have y : Blk wq (w2.heap.size + 1) 46 #[.bool b'2, .slice A'2 n'2 c'2] := hbl _ (List.Mem.tail _ (List.Mem.tail _ (List.Mem.tail _ (List.Mem.tail _ (List.Mem.tail _ (List.Mem.tail _ (List.Mem.head _))))))) (by simp [Region.binds])
      obtain ⟨hcl0, hcl1⟩ := y.c2
      (try dsimp only)
      go_simp
      exact hK.out (.agg #[.bool b'2, .slice A'2 n'2 c'2]) _ rfl (brefl _)⟩
  · exact .inl ⟨by simp, by simp, fun xf wq hk hbl hd K hK => by
      have d7 : xf 7 = .agg #[.bool b'1, .slice A'1 n'1 c'1] := hd ⟨7, .data⟩ (by simp) rfl
      have d8 : xf 8 = .agg #[.bool b'2, .slice A'2 n'2 c'2] := hd ⟨8, .data⟩ (by simp) rfl
      (try dsimp only); (try simp only [d7, d8])
      go_simp
      go_at_call 112
      (with_reducible refine (r01_mul _ b'1 A'1 n'1 c'1 (((q).den : Int)) ((k)) ?_ b'2 A'2 n'2 c'2 (((q').den : Int)) ((k')) ?_ ?_).mono ?_); (exact (h'1.keep hk).iz); (exact (h'2.keep hk).iz); (first | omega | decide | assumption); rintro e wr ⟨b8, A8, n8, c8, rfl, h8, hbr⟩
      have hz := hK.out _ _ ⟨b8, A8, n8, c8, rfl, h8⟩ hbr
      simp only [d7, d8] at hz
      exact hz⟩
  · exact .inl ⟨by simp, by simp, fun xf wq hk hbl hd K hK => by
      obtain ⟨b7, A7, n7, c7, d6, h7⟩ : VI ((((q).num) * (((q').den : Int))) + (((q').num) * (((q).den : Int)))) ((((k)) + ((k'))) + (((k')) + ((k))) + 1) (xf 6) wq := hd ⟨6, .data⟩ (by simp) rfl
      obtain ⟨b8, A8, n8, c8, d9, h8⟩ : VI ((((q).den : Int)) * (((q').den : Int))) (((k)) + ((k'))) (xf 9) wq := hd ⟨9, .data⟩ (by simp) rfl
      (try dsimp only); (try simp only [d6, d9])
      go_simp
      go_at_call 93
      (with_reducible refine (g_form _ b7 A7 n7 c7 ((((q).num) * (((q').den : Int))) + (((q').num) * (((q).den : Int)))) ((((k)) + ((k'))) + (((k')) + ((k))) + 1) ?_ b8 A8 n8 c8 ((((q).den : Int)) * (((q').den : Int))) (((k)) + ((k'))) ?_ (q + q') (k + k' + 1) ?_ ?_ ?_ ?_).mono ?_); (exact h7.iz); (exact h8.iz); (exact Int.mul_ne_zero (den_ne _) (den_ne _)); (exact (add_q _ _).symm); (exact Sz_add HS.out HS'.out); (omega); rintro e wr ⟨b9, A9, n9, c9, A'9, n'9, c'9, rfl, h9, hbr⟩
      have hz := hK.out _ _ ⟨b9, A9, n9, c9, A'9, n'9, c'9, rfl, h9⟩ hbr
      simp only [d6, d9] at hz
      exact hz⟩
  · exact .inr (.inr (.inr ⟨⟨w.heap.size + 1 + 1, 11, 0, 24, #[.bool false, .slice none 0 0, .slice none 0 0], CQ (q + q') (k + k' + 1)⟩, by simp, rfl, by simp, by simp, (show KT 24 = false by decide), fun _ _ => True.intro, fun xf wq hblk hd => by
      obtain ⟨b9, A9, n9, c9, A'9, n'9, c'9, d10, h9⟩ : VQ (q + q') (k + k' + 1) (xf 10) wq := hd ⟨10, .data⟩ (by simp) rfl
      dsimp only at hblk
      refine ⟨[.bool b9, .slice A9 n9 c9, .slice A'9 n'9 c'9], fun w' hk => ⟨b9, A9, n9, c9, A'9, n'9, c'9, rfl, h9.keep hk⟩, fun K hK => ?_⟩
      have hc0 : wq.cell? ⟨w.heap.size + 1 + 1, 0, none⟩ = some (.bool false) := hblk.cell 0
      have hc1 : wq.cell? ⟨w.heap.size + 1 + 1, 1, none⟩ = some (.slice none 0 0) := hblk.cell 1
      have hc2 : wq.cell? ⟨w.heap.size + 1 + 1, 2, none⟩ = some (.slice none 0 0) := hblk.cell 2
      have hf0 : wq.frozen? ⟨w.heap.size + 1 + 1, 0, none⟩ = false := hblk.frozen 0
      have hf1 : wq.frozen? ⟨w.heap.size + 1 + 1, 1, none⟩ = false := hblk.frozen 1
      have hf2 : wq.frozen? ⟨w.heap.size + 1 + 1, 2, none⟩ = false := hblk.frozen 2
      (try dsimp only)
      simp only [d10]
      go_simp
      have hz := hK.out undef
      simp only [d10] at hz
      exact hz⟩))
  clear cx2aa cx2ab lx2aa lx2ab lx2ac lx2ad cx2ba cx2bb lx2ba lx2bb lx2bc lx2bd cx3aa cx3ab lx3aa lx3ab lx3ac lx3ad cx3ba cx3bb lx3ba lx3bb lx3bc lx3bd
  intro y4 w4 kq4 hbl4 lw4 how hrr hfl hds
  replace h := h.keep kq4
  replace h' := h'.keep kq4
  replace h1 := h1.keep kq4
  replace h'1 := h'1.keep kq4
  replace h2 := h2.keep kq4
  replace h'2 := h'2.keep kq4
  obtain ⟨_, z4_0, ez, _⟩ := how _ (List.Mem.head _)
  obtain rfl := ez (by simp)
  dsimp only at z4_0
  obtain ⟨_, z4_1, ez, _⟩ := how _ (List.Mem.tail _ (List.Mem.head _))
  obtain rfl := ez (by simp)
  dsimp only at z4_1
  obtain ⟨_, z4_2, _, ez⟩ := how _ (List.Mem.tail _ (List.Mem.tail _ (List.Mem.head _)))
  obtain ⟨b9, A9, n9, c9, A'9, n'9, c'9, rfl, h9⟩ := ez (by simp)
  dsimp only at z4_2
  obtain ⟨_, z4_3, ez, _⟩ := how _ (List.Mem.tail _ (List.Mem.tail _ (List.Mem.tail _ (List.Mem.head _))))
  obtain rfl := ez (by simp)
  dsimp only at z4_3
  obtain ⟨_, z4_4, ez, _⟩ := how _ (List.Mem.tail _ (List.Mem.tail _ (List.Mem.tail _ (List.Mem.tail _ (List.Mem.head _)))))
  obtain rfl := ez (by simp)
  dsimp only at z4_4
  obtain ⟨_, z4_5, ez, _⟩ := how _ (List.Mem.tail _ (List.Mem.tail _ (List.Mem.tail _ (List.Mem.tail _ (List.Mem.tail _ (List.Mem.head _))))))
  obtain rfl := ez (by simp)
  dsimp only at z4_5
  obtain ⟨_, z4_6, ez, _⟩ := how _ (List.Mem.tail _ (List.Mem.tail _ (List.Mem.tail _ (List.Mem.tail _ (List.Mem.tail _ (List.Mem.tail _ (List.Mem.head _)))))))
  obtain rfl := ez (by simp)
  dsimp only at z4_6
  (try dsimp only)
  clear hrr hfl how hds 
  clear x1a x1b x1c x2a x2b x3a x3b
  have bw4 := bw3.trans hbl4
  clear bw3
  have cz4_2_0 : w4.cell? ⟨w.heap.size + 1 + 1, 0, none⟩ = some (.bool b9) := z4_2.cell 0
  have cz4_2_1 : w4.cell? ⟨w.heap.size + 1 + 1, 1, none⟩ = some (.slice A9 n9 c9) := z4_2.cell 1
  have cz4_2_2 : w4.cell? ⟨w.heap.size + 1 + 1, 2, none⟩ = some (.slice A'9 n'9 c'9) := z4_2.cell 2
  obtain ⟨lz4_2_0, lz4_2_1, lz4_2_2, lz4_2_3⟩ := lts2 z4_2.lt
  go_wp2_with fail
  refine bodyPost_ret (v := .agg #[.bool b9, .slice A9 n9 c9, .slice A'9 n'9 c'9]) (by simp [results, Tryz.results66, go_sem, *] <;> first | rfl | exact ⟨rfl, rfl⟩) rfl ?_
  exact ⟨b9, A9, n9, c9, A'9, n'9, c'9, rfl, h9.keep (Kp.refl w4), bw4⟩
theorem g_sub (w : World) (b : Bool) (A : Option Addr) (n c : Nat) (D : Option Addr) (m e : Nat) (q : Rat) (k : Nat) (h : QZ w b A n c D m e q k) (b' : Bool) (A' : Option Addr) (n' c' : Nat) (D' : Option Addr) (m' e' : Nat) (q' : Rat) (k' : Nat) (h' : QZ w b' A' n' c' D' m' e' q' k') (h0 : 0 < k) (hk : k ≤ 40000000) (h0' : 0 < k') (hk' : k' ≤ 40000000) :
    Calls Tryz.prog 67 #[.agg #[.bool b, .slice A n c, .slice D m e], .agg #[.bool b', .slice A' n' c', .slice D' m' e']] w (RetF w (q - q') (k + k' + 1)) := by
  rw [show q - q' = q + -q' from Rat.sub_eq_add_neg q q']
  go_enter Tryz.func67, Tryz.ntmps67
  go_wp2_with fail
  have p1 := ((((Kp.refl w).alloc (.cells #[.bool b, .slice A n c, .slice D m e] 24)).alloc (.cells #[.bool b', .slice A' n' c', .slice D' m' e'] 24)).alloc (.cells #[.bool false, .slice none 0 0, .slice none 0 0] 24))
  have bw1 := ((((brefl w).alloc (by first | omega | (simp <;> omega)) (.cells #[.bool b, .slice A n c, .slice D m e] 24)).alloc (by first | omega | (simp <;> omega)) (.cells #[.bool b', .slice A' n' c', .slice D' m' e'] 24)).alloc (by first | omega | (simp <;> omega)) (.cells #[.bool false, .slice none 0 0, .slice none 0 0] 24))
  have x1a : Blk (((w.alloc (.cells #[.bool b, .slice A n c, .slice D m e] 24)).alloc (.cells #[.bool b', .slice A' n' c', .slice D' m' e'] 24)).alloc (.cells #[.bool false, .slice none 0 0, .slice none 0 0] 24)) w.heap.size 24 #[.bool b, .slice A n c, .slice D m e] := (((blkAt _ _ _ (by simp)).alloc (.cells #[.bool b', .slice A' n' c', .slice D' m' e'] 24)).alloc (.cells #[.bool false, .slice none 0 0, .slice none 0 0] 24))
  have x1b : Blk (((w.alloc (.cells #[.bool b, .slice A n c, .slice D m e] 24)).alloc (.cells #[.bool b', .slice A' n' c', .slice D' m' e'] 24)).alloc (.cells #[.bool false, .slice none 0 0, .slice none 0 0] 24)) (w.heap.size + 1) 24 #[.bool b', .slice A' n' c', .slice D' m' e'] := ((blkAt _ _ _ (by simp)).alloc (.cells #[.bool false, .slice none 0 0, .slice none 0 0] 24))
  have x1c : Blk (((w.alloc (.cells #[.bool b, .slice A n c, .slice D m e] 24)).alloc (.cells #[.bool b', .slice A' n' c', .slice D' m' e'] 24)).alloc (.cells #[.bool false, .slice none 0 0, .slice none 0 0] 24)) (w.heap.size + 1 + 1) 24 #[.bool false, .slice none 0 0, .slice none 0 0] := (blkAt _ _ _ (by simp))
  have lw1 : w.heap.size + 3 ≤ (((w.alloc (.cells #[.bool b, .slice A n c, .slice D m e] 24)).alloc (.cells #[.bool b', .slice A' n' c', .slice D' m' e'] 24)).alloc (.cells #[.bool false, .slice none 0 0, .slice none 0 0] 24)).heap.size := by simp
  generalize hE1 : (((w.alloc (.cells #[.bool b, .slice A n c, .slice D m e] 24)).alloc (.cells #[.bool b', .slice A' n' c', .slice D' m' e'] 24)).alloc (.cells #[.bool false, .slice none 0 0, .slice none 0 0] 24)) = w1 at p1 bw1 lw1 x1a x1b x1c ⊢
  clear hE1
  replace h := h.keep p1
  replace h' := h'.keep p1
  obtain ⟨cx1aa, cx1ab, cx1ac⟩ := x1a.c3
  obtain ⟨lx1aa, lx1ab, lx1ac, lx1ad⟩ := lts0 x1a.lt
  obtain ⟨cx1ba, cx1bb, cx1bc⟩ := x1b.c3
  obtain ⟨lx1ba, lx1bb, lx1bc, lx1bd⟩ := lts1 x1b.lt
  obtain ⟨cx1ca, cx1cb, cx1cc⟩ := x1c.c3
  obtain ⟨fx1ca, fx1cb, fx1cc⟩ := x1c.f3
  obtain ⟨lx1ca, lx1cb, lx1cc, lx1cd⟩ := lts2 x1c.lt
  have nfx1_0_0 : ¬ w.heap.size = w.heap.size + 1 + 1 := by omega
  have nex1_0_0 : ¬ w.heap.size = w.heap.size + 2 := by omega
  have nfx1_1_0 : ¬ w.heap.size + 1 = w.heap.size + 1 + 1 := by omega
  have nex1_1_0 : ¬ w.heap.size = w.heap.size + 1 := by omega
  go_region_held3 (fun w' => SeesX w1.heap.size (w.heap.size + 1 + 1) w1 w') (first | with_reducible exact SeesX.of (Nat.le_refl _) (by assumption) | with_reducible exact SeesX.of (Nat.le_refl _) (brefl _).drew | with_reducible exact (SeesX.set (SeesX.set (SeesX.set (SeesX.of (Nat.le_refl _) (by assumption))))) | with_reducible exact (SeesX.set (SeesX.set (SeesX.of (Nat.le_refl _) (by assumption)))) | with_reducible exact (SeesX.set (SeesX.of (Nat.le_refl _) (by assumption))) | exact SeesX.of (Nat.le_refl _) (below_drewN (brefl _) 1) | exact SeesX.of (Nat.le_refl _) (below_drewN (by assumption) _))
    (first
      | (go_at_call 63; (with_reducible refine (g_neg _ b' A' n' c' D' m' e' (q') (k') ?_ ?_ ?_).mono ?_); (exact h'); (first | omega | decide | assumption); (first | omega | decide | assumption); rintro e w2 ⟨b2, A2, n2, c2, A'2, n'2, c'2, rfl, h2, hb2⟩; replace hb2 := bnext (below_drewN (brefl _) 1) hb2; have q2 : Below w1.heap.size w1 w2 := bnext (brefl w1) hb2; replace h := h.belw hb2; replace h' := h'.belw hb2)
      | (go_at_call 66; (with_reducible refine (g_add _ b A n c D m e (q) (k) ?_ b2 A2 n2 c2 A'2 n'2 c'2 (-(q')) ((k')) ?_ ?_ ?_ ?_ ?_).mono ?_); (exact h); (exact h2.qz); (first | omega | decide | assumption); (first | omega | decide | assumption); (first | omega | decide | assumption); (first | omega | decide | assumption); rintro e w3 ⟨b3, A3, n3, c3, A'3, n'3, c'3, rfl, h3, hb3⟩; have q3 : Below w1.heap.size w1 w3 := bnext q2 hb3; replace h := h.belw hb3; replace h' := h'.belw hb3; replace h2 := h2.belw hb3; have x1c := x1c.b q3; obtain ⟨cx1ca, cx1cb, cx1cc⟩ := x1c.c3; obtain ⟨fx1ca, fx1cb, fx1cc⟩ := x1c.f3))
  have bw3 := bw1.trans (q3.mono bw1.size)
  clear cx1aa cx1ab cx1ac lx1aa lx1ab lx1ac lx1ad cx1ba cx1bb cx1bc lx1ba lx1bb lx1bc lx1bd cx1ca fx1ca cx1cb fx1cb cx1cc fx1cc lx1ca lx1cb lx1cc lx1cd
  replace x1a := x1a.b q3
  replace x1b := x1b.b q3
  have lw3 := q3.size
  obtain ⟨cx1ca, cx1cb, cx1cc⟩ := x1c.c3
  obtain ⟨fx1ca, fx1cb, fx1cc⟩ := x1c.f3
  go_wp2_with fail
  refine bodyPost_ret (v := .agg #[.bool b3, .slice A3 n3 c3, .slice A'3 n'3 c'3]) (by simp [results, Tryz.results67, go_sem, *] <;> first | rfl | exact ⟨rfl, rfl⟩) rfl ?_
  exact ⟨b3, A3, n3, c3, A'3, n'3, c'3, rfl, h3.keep ((((Kp.refl w3).sb (w.heap.size + 1 + 1) 0 x1c.box (by decide) (.bool b3)).sb (w.heap.size + 1 + 1) 1 (x1c.box.set ⟨w.heap.size + 1 + 1, 0, none⟩ (.bool b3)) (by decide) (.slice A3 n3 c3)).sb (w.heap.size + 1 + 1) 2 ((x1c.box.set ⟨w.heap.size + 1 + 1, 0, none⟩ (.bool b3)).set ⟨w.heap.size + 1 + 1, 1, none⟩ (.slice A3 n3 c3)) (by decide) (.slice A'3 n'3 c'3)), (((bw3.sc (w.heap.size + 1 + 1) 0 (by omega) (.bool b3)).sc (w.heap.size + 1 + 1) 1 (by omega) (.slice A3 n3 c3)).sc (w.heap.size + 1 + 1) 2 (by omega) (.slice A'3 n'3 c'3))⟩
theorem g_cmp (w : World) (b : Bool) (A : Option Addr) (n c : Nat) (D : Option Addr) (m e : Nat) (q : Rat) (k : Nat) (h : QZ w b A n c D m e q k) (b' : Bool) (A' : Option Addr) (n' c' : Nat) (D' : Option Addr) (m' e' : Nat) (q' : Rat) (k' : Nat) (h' : QZ w b' A' n' c' D' m' e' q' k') (h0 : 0 < k) (hk : k ≤ 10000000) (h0' : 0 < k') (hk' : k' ≤ 10000000) :
  Calls Tryz.prog 69 #[.agg #[.bool b, .slice A n c, .slice D m e], .agg #[.bool b', .slice A' n' c', .slice D' m' e']] w (RetV w (.int .i64 (q - q').num.sign)) := by
 go_enter Tryz.func69, Tryz.ntmps69
 go_wp2_with fail
 (with_reducible refine (g_sub _ b A n c D m e (q) (k) ?_ b' A' n' c' D' m' e' (q') (k') ?_ ?_ ?_ ?_ ?_).mono ?_); (exact (h.belw (((Below.refl _ _).alloc (Nat.le_refl _) _).alloc (by simp) _))); (exact (h'.belw (((Below.refl _ _).alloc (Nat.le_refl _) _).alloc (by simp) _))); (first | omega | decide | assumption); (first | omega | decide | assumption); (first | omega | decide | assumption); (first | omega | decide | assumption); rintro e w1 ⟨b1, A1, n1, c1, A'1, n'1, c'1, rfl, h1, hb1⟩
 have q1 := (((Below.refl _ _).alloc (Nat.le_refl _) _).alloc (by simp) _).trans (hb1.mono (by simp <;> omega))
 replace h := h.belw q1
 replace h' := h'.belw q1
 have x1a : Blk w1 w.heap.size 24 #[.bool b, .slice A n c, .slice D m e] := ((blkAt _ _ _ (by simp)).alloc _).below hb1 (by simp <;> omega)
 have x1b := (blkAt _ _ _ (g := w.heap.size + 1) (by simp)).below hb1 (by simp)
 have bw1 := (brefl w).trans (q1.mono (brefl w).size)
 have lw1 : w.heap.size + 2 ≤ w1.heap.size := by have := hb1.size; simp at this; omega
 clear q1
 go_wp2_with fail
 (with_reducible refine (g_sign _ b1 A1 n1 c1 A'1 n'1 c'1 ((q) - (q')) ((k) + (k') + 1) ?_ ?_ ?_).mono ?_); (exact h1.qz); (first | omega | decide | assumption); (first | omega | decide | assumption); rintro e w2 ⟨rfl, q2⟩
 replace h := h.belw q2
 replace h' := h'.belw q2
 replace h1 := h1.belw q2
 replace x1a := x1a.b q2
 replace x1b := x1b.b q2
 have bw2 := bw1.trans (q2.mono bw1.size)
 have lw2 := q2.size
 clear q2 bw1
 go_wp2_with fail
 go_ret
 exact retI rfl bw2
theorem g_from (w : World) (b : Bool) (A : Option Addr) (n c : Nat) (z : Int) (k : Nat) (h : IZ w b A n c z k) (b' : Bool) (A' : Option Addr) (n' c' : Nat) (z' : Int) (k' : Nat) (h' : IZ w b' A' n' c' z' k') (q : Rat) (K : Nat) (hd : z' ≠ 0) (hq : Rat.divInt z z' = q) (hs : Sz q K) (hk : k + k' ≤ 300000000) :
  Calls Tryz.prog 29 #[.agg #[.bool b, .slice A n c], .agg #[.bool b', .slice A' n' c']] w (RetFe w (.int .i64 0) q K) := by
 obtain ⟨s, hs1⟩ : ∃ s, z'.sign = s := ⟨_, rfl⟩
 have e0 : ((s : Int) == 0) = false := by simp; rintro rfl; exact hd (Int.sign_eq_zero_iff_zero.1 hs1)
 have HS1 := Lib.hid hs1
 have HD := Lib.hid hd
 have HQ := Lib.hid hq
 have HS := Lib.hid hs
 clear hs1 hd hq hs
 go_enter Tryz.func29, Tryz.ntmps29
 go_wp2_with fail
 (with_reducible refine (r01_sign_e _ b' A' n' c' (z') (k') ?_ s ?_ ?_).mono ?_); (exact (h'.belw ((((Below.refl _ _).alloc (Nat.le_refl _) _).alloc (by simp) _).alloc (by simp <;> omega) _))); (exact HS1.out); (omega); rintro e w1 ⟨rfl, hb1⟩
 have q1 := ((((Below.refl _ _).alloc (Nat.le_refl _) _).alloc (by simp) _).alloc (by simp <;> omega) _).trans (hb1.mono (by simp <;> omega))
 replace h := h.belw q1
 replace h' := h'.belw q1
 have x1a : Blk w1 w.heap.size 46 #[.bool b, .slice A n c] := (((blkAt _ _ _ (by simp)).alloc _).alloc _).below hb1 (by simp <;> omega)
 have x1b := ((blkAt _ _ _ (g := w.heap.size + 1) (by simp)).alloc _).below hb1 (by simp <;> omega)
 have x1c := (blkAt _ _ _ (g := w.heap.size + 1 + 1) (by simp)).below hb1 (by simp)
 have bw1 := (brefl w).trans (q1.mono (brefl w).size)
 have lw1 : w.heap.size + 3 ≤ w1.heap.size := by have := hb1.size; simp at this; omega
 clear q1
 obtain ⟨cx1aa, cx1ab⟩ := x1a.c2
 obtain ⟨lx1aa, lx1ab, lx1ac, lx1ad⟩ := lts0 x1a.lt
 obtain ⟨cx1ba, cx1bb⟩ := x1b.c2
 obtain ⟨lx1ba, lx1bb, lx1bc, lx1bd⟩ := lts1 x1b.lt
 go_wp2_with fail
 (with_reducible refine (g_form _ b A n c (z) (k) ?_ b' A' n' c' (z') (k') ?_ q K ?_ ?_ ?_ ?_).mono ?_); (exact h); (exact h'); (exact HD.out); (exact HQ.out); (exact HS.out); (omega); rintro e w2 ⟨b2, A2, n2, c2, A'2, n'2, c'2, rfl, h2, q2⟩
 clear cx1aa cx1ab lx1aa lx1ab lx1ac lx1ad cx1ba cx1bb lx1ba lx1bb lx1bc lx1bd
 replace h := h.belw q2
 replace h' := h'.belw q2
 replace x1a := x1a.b q2
 replace x1b := x1b.b q2
 replace x1c := x1c.b q2
 have bw2 := bw1.trans (q2.mono bw1.size)
 have lw2 := q2.size
 clear q2 bw1
 obtain ⟨cx1ca, cx1cb, cx1cc⟩ := x1c.c3
 obtain ⟨fx1ca, fx1cb, fx1cc⟩ := x1c.f3
 obtain ⟨lx1ca, lx1cb, lx1cc, lx1cd⟩ := lts2 x1c.lt
 go_wp2_with fail
 refine bodyPost_ret (v := .tuple #[.agg #[.bool b2, .slice A2 n2 c2, .slice A'2 n'2 c'2], .int .i64 0]) (by simp [results, Tryz.results29, go_sem, *] <;> first | rfl | exact ⟨rfl, rfl⟩) rfl ?_
 exact ⟨b2, A2, n2, c2, A'2, n'2, c'2, rfl, h2.keep ((((Kp.refl w2).sb (w.heap.size + 1 + 1) 0 x1c.box (by decide) (.bool b2)).sb (w.heap.size + 1 + 1) 1 (x1c.box.set ⟨w.heap.size + 1 + 1, 0, none⟩ (.bool b2)) (by decide) (.slice A2 n2 c2)).sb (w.heap.size + 1 + 1) 2 ((x1c.box.set ⟨w.heap.size + 1 + 1, 0, none⟩ (.bool b2)).set ⟨w.heap.size + 1 + 1, 1, none⟩ (.slice A2 n2 c2)) (by decide) (.slice A'2 n'2 c'2)), (((bw2.sc (w.heap.size + 1 + 1) 0 (by omega) (.bool b2)).sc (w.heap.size + 1 + 1) 1 (by omega) (.slice A2 n2 c2)).sc (w.heap.size + 1 + 1) 2 (by omega) (.slice A'2 n'2 c'2))⟩
end Go.Proofs.YtkpjhmpjihchpaaGreatDoor

namespace Go.Proofs.YtkpjhmpjihchpaaGreatDoor
open Go Go.RowKit Bn
attribute [local go_sem ↓] Go.wp_at_zero Go.wp_at_succ
theorem g_mul (w : World) (b : Bool) (A : Option Addr) (n c : Nat) (D : Option Addr) (m e : Nat) (q : Rat) (k : Nat) (h : QZ w b A n c D m e q k) (b' : Bool) (A' : Option Addr) (n' c' : Nat) (D' : Option Addr) (m' e' : Nat) (q' : Rat) (k' : Nat) (h' : QZ w b' A' n' c' D' m' e' q' k') (h0 : 0 < k) (hk : k ≤ 40000000) (h0' : 0 < k') (hk' : k' ≤ 40000000) :
    Calls Tryz.prog 68 #[.agg #[.bool b, .slice A n c, .slice D m e], .agg #[.bool b', .slice A' n' c', .slice D' m' e']] w (RetF w (q * q') (k + k')) := by
  have HS := Lib.hid (h.sz h0)
  have HS' := Lib.hid (h'.sz h0')
  go_enter Tryz.func68, Tryz.ntmps68
  go_wp2_with fail
  (with_reducible refine (g_parts _ b A n c D m e (q) (k) ?_ ?_ ?_).mono ?_); (exact (h.belw ((((Below.refl _ _).alloc (Nat.le_refl _) _).alloc (by simp) _).alloc (by simp <;> omega) _))); (first | omega | decide | assumption); (first | omega | decide | assumption); rintro e w1 ⟨b1, A1, n1, c1, b'1, A'1, n'1, c'1, rfl, h1, h'1, hb1⟩
  have q1 := ((((Below.refl _ _).alloc (Nat.le_refl _) _).alloc (by simp) _).alloc (by simp <;> omega) _).trans (hb1.mono (by simp <;> omega))
  replace h := h.belw q1
  replace h' := h'.belw q1
  have x1a : Blk w1 w.heap.size 24 #[.bool b, .slice A n c, .slice D m e] := (((blkAt _ _ _ (by simp)).alloc _).alloc _).below hb1 (by simp <;> omega)
  have x1b := ((blkAt _ _ _ (g := w.heap.size + 1) (by simp)).alloc _).below hb1 (by simp <;> omega)
  have x1c := (blkAt _ _ _ (g := w.heap.size + 1 + 1) (by simp)).below hb1 (by simp)
  have bw1 := (brefl w).trans (q1.mono (brefl w).size)
  have lw1 : w.heap.size + 3 ≤ w1.heap.size := by have := hb1.size; simp at this; omega
  clear q1
  obtain ⟨cx1ba, cx1bb, cx1bc⟩ := x1b.c3
  obtain ⟨lx1ba, lx1bb, lx1bc, lx1bd⟩ := lts1 x1b.lt
  go_wp2_with fail
  (with_reducible refine (g_parts _ b' A' n' c' D' m' e' (q') (k') ?_ ?_ ?_).mono ?_); (exact (h'.belw (((Below.refl _ _).alloc (Nat.le_refl _) _).alloc (by simp) _))); (first | omega | decide | assumption); (first | omega | decide | assumption); rintro e w2 ⟨b2, A2, n2, c2, b'2, A'2, n'2, c'2, rfl, h2, h'2, hb2⟩
  clear cx1ba cx1bb cx1bc lx1ba lx1bb lx1bc lx1bd
  have q2 := (((Below.refl _ _).alloc (Nat.le_refl _) _).alloc (by simp) _).trans (hb2.mono (by simp <;> omega))
  replace h := h.belw q2
  replace h' := h'.belw q2
  replace h1 := h1.belw q2
  replace h'1 := h'1.belw q2
  replace x1a := x1a.b q2
  replace x1b := x1b.b q2
  replace x1c := x1c.b q2
  have x2a : Blk w2 w1.heap.size 46 #[.bool b1, .slice A1 n1 c1] := ((blkAt _ _ _ (by simp)).alloc _).below hb2 (by simp <;> omega)
  have x2b := (blkAt _ _ _ (g := w1.heap.size + 1) (by simp)).below hb2 (by simp)
  have bw2 := bw1.trans (q2.mono bw1.size)
  have lw2 : w1.heap.size + 2 ≤ w2.heap.size := by have := hb2.size; simp at this; omega
  clear q2 bw1
  go_wp2_with fail
  have p3 := (((Kp.refl w2).alloc (.cells #[.bool b2, .slice A2 n2 c2] 46)).alloc (.cells #[.bool b'2, .slice A'2 n'2 c'2] 46))
  have bw3 := ((bw2.alloc (by first | omega | (simp <;> omega)) (.cells #[.bool b2, .slice A2 n2 c2] 46)).alloc (by first | omega | (simp <;> omega)) (.cells #[.bool b'2, .slice A'2 n'2 c'2] 46))
  have x3a : Blk ((w2.alloc (.cells #[.bool b2, .slice A2 n2 c2] 46)).alloc (.cells #[.bool b'2, .slice A'2 n'2 c'2] 46)) w2.heap.size 46 #[.bool b2, .slice A2 n2 c2] := ((blkAt _ _ _ (by simp)).alloc (.cells #[.bool b'2, .slice A'2 n'2 c'2] 46))
  have x3b : Blk ((w2.alloc (.cells #[.bool b2, .slice A2 n2 c2] 46)).alloc (.cells #[.bool b'2, .slice A'2 n'2 c'2] 46)) (w2.heap.size + 1) 46 #[.bool b'2, .slice A'2 n'2 c'2] := (blkAt _ _ _ (by simp))
  replace x1a := ((x1a.alloc (.cells #[.bool b2, .slice A2 n2 c2] 46)).alloc (.cells #[.bool b'2, .slice A'2 n'2 c'2] 46))
  replace x1b := ((x1b.alloc (.cells #[.bool b2, .slice A2 n2 c2] 46)).alloc (.cells #[.bool b'2, .slice A'2 n'2 c'2] 46))
  replace x1c := ((x1c.alloc (.cells #[.bool b2, .slice A2 n2 c2] 46)).alloc (.cells #[.bool b'2, .slice A'2 n'2 c'2] 46))
  replace x2a := ((x2a.alloc (.cells #[.bool b2, .slice A2 n2 c2] 46)).alloc (.cells #[.bool b'2, .slice A'2 n'2 c'2] 46))
  replace x2b := ((x2b.alloc (.cells #[.bool b2, .slice A2 n2 c2] 46)).alloc (.cells #[.bool b'2, .slice A'2 n'2 c'2] 46))
  have lw3 : w2.heap.size + 2 ≤ ((w2.alloc (.cells #[.bool b2, .slice A2 n2 c2] 46)).alloc (.cells #[.bool b'2, .slice A'2 n'2 c'2] 46)).heap.size := by simp
  generalize hE3 : ((w2.alloc (.cells #[.bool b2, .slice A2 n2 c2] 46)).alloc (.cells #[.bool b'2, .slice A'2 n'2 c'2] 46)) = w3 at p3 bw3 lw3 x3a x3b x1a x1b x1c x2a x2b ⊢
  clear hE3
  replace h := h.keep p3
  replace h' := h'.keep p3
  replace h1 := h1.keep p3
  replace h'1 := h'1.keep p3
  replace h2 := h2.keep p3
  replace h'2 := h'2.keep p3
  clear bw2
  obtain ⟨lx1aa, lx1ab, lx1ac, lx1ad⟩ := lts0 x1a.lt
  obtain ⟨lx1ba, lx1bb, lx1bc, lx1bd⟩ := lts1 x1b.lt
  have cx1ca : w3.cell? ⟨w.heap.size + 1 + 1, 0, none⟩ = some (.bool false) := x1c.cell 0
  have fx1ca : w3.frozen? ⟨w.heap.size + 1 + 1, 0, none⟩ = false := x1c.frozen 0
  have cx1cb : w3.cell? ⟨w.heap.size + 1 + 1, 1, none⟩ = some (.slice none 0 0) := x1c.cell 1
  have fx1cb : w3.frozen? ⟨w.heap.size + 1 + 1, 1, none⟩ = false := x1c.frozen 1
  have cx1cc : w3.cell? ⟨w.heap.size + 1 + 1, 2, none⟩ = some (.slice none 0 0) := x1c.cell 2
  have fx1cc : w3.frozen? ⟨w.heap.size + 1 + 1, 2, none⟩ = false := x1c.frozen 2
  obtain ⟨lx1ca, lx1cb, lx1cc, lx1cd⟩ := lts2 x1c.lt
  obtain ⟨cx2aa, cx2ab⟩ := x2a.c2
  obtain ⟨lx2aa, lx2ab, lx2ac, lx2ad⟩ := lts0 x2a.lt
  obtain ⟨cx2ba, cx2bb⟩ := x2b.c2
  obtain ⟨lx2ba, lx2bb, lx2bc, lx2bd⟩ := lts1 x2b.lt
  obtain ⟨cx3aa, cx3ab⟩ := x3a.c2
  obtain ⟨lx3aa, lx3ab, lx3ac, lx3ad⟩ := lts0 x3a.lt
  obtain ⟨cx3ba, cx3bb⟩ := x3b.c2
  obtain ⟨lx3ba, lx3bb, lx3bc, lx3bd⟩ := lts1 x3b.lt
  have nfx1_0_0 : ¬ w.heap.size = w.heap.size + 1 + 1 := by omega
  have nex1_0_0 : ¬ w.heap.size = w.heap.size + 2 := by omega
  have nfx1_1_0 : ¬ w.heap.size + 1 = w.heap.size + 1 + 1 := by omega
  have nex1_1_0 : ¬ w.heap.size = w.heap.size + 1 := by omega
  have nfx2_0_0 : ¬ w1.heap.size = w.heap.size + 1 + 1 := by omega
  have nex2_0_0 : ¬ w1.heap.size = w.heap.size + 2 := by omega
  have nfx2_1_0 : ¬ w1.heap.size + 1 = w.heap.size + 1 + 1 := by omega
  have nex2_1_0 : ¬ w1.heap.size = w.heap.size + 1 := by omega
  have nfx3_0_0 : ¬ w2.heap.size = w.heap.size + 1 + 1 := by omega
  have nex3_0_0 : ¬ w2.heap.size = w.heap.size + 2 := by omega
  have nfx3_1_0 : ¬ w2.heap.size + 1 = w.heap.size + 1 + 1 := by omega
  have nex3_1_0 : ¬ w2.heap.size = w.heap.size + 1 := by omega
  go_region_held3 (fun w' => SeesX w3.heap.size (w.heap.size + 1 + 1) w3 w') (first | with_reducible exact SeesX.of (Nat.le_refl _) (by assumption) | with_reducible exact SeesX.of (Nat.le_refl _) (brefl _).drew | with_reducible exact (SeesX.set (SeesX.set (SeesX.set (SeesX.of (Nat.le_refl _) (by assumption))))) | with_reducible exact (SeesX.set (SeesX.set (SeesX.of (Nat.le_refl _) (by assumption)))) | with_reducible exact (SeesX.set (SeesX.of (Nat.le_refl _) (by assumption))) | exact SeesX.of (Nat.le_refl _) (below_drewN (brefl _) 1) | exact SeesX.of (Nat.le_refl _) (below_drewN (by assumption) _))
    (first
      | (go_at_call 112; (with_reducible refine (r01_mul _ b1 A1 n1 c1 ((q).num) ((k)) ?_ b2 A2 n2 c2 ((q').num) ((k')) ?_ ?_).mono ?_); (exact h1.iz); (exact h2.iz); (first | omega | decide | assumption); rintro e w4 ⟨b4, A4, n4, c4, rfl, h4, hb4⟩; replace hb4 := bnext (below_drewN (brefl _) 1) hb4; have q4 : Below w3.heap.size w3 w4 := bnext (brefl w3) hb4; replace h := h.belw hb4; replace h' := h'.belw hb4; replace h1 := h1.belw hb4; replace h'1 := h'1.belw hb4; replace h2 := h2.belw hb4; replace h'2 := h'2.belw hb4)
      | (go_at_call 112; (with_reducible refine (r01_mul _ b'1 A'1 n'1 c'1 (((q).den : Int)) ((k)) ?_ b'2 A'2 n'2 c'2 (((q').den : Int)) ((k')) ?_ ?_).mono ?_); (exact h'1.iz); (exact h'2.iz); (first | omega | decide | assumption); rintro e w5 ⟨b5, A5, n5, c5, rfl, h5, hb5⟩; have q5 : Below w3.heap.size w3 w5 := bnext q4 hb5; replace h := h.belw hb5; replace h' := h'.belw hb5; replace h1 := h1.belw hb5; replace h'1 := h'1.belw hb5; replace h2 := h2.belw hb5; replace h'2 := h'2.belw hb5; replace h4 := h4.belw hb5)
      | (go_at_call 93; (with_reducible refine (g_form _ b4 A4 n4 c4 (((q).num) * ((q').num)) (((k)) + ((k'))) ?_ b5 A5 n5 c5 ((((q).den : Int)) * (((q').den : Int))) (((k)) + ((k'))) ?_ (q * q') (k + k') ?_ ?_ ?_ ?_).mono ?_); (exact h4.iz); (exact h5.iz); (exact Int.mul_ne_zero (den_ne _) (den_ne _)); (exact (mul_q _ _).symm); (exact Sz_mul HS.out HS'.out); (omega); rintro e w6 ⟨b6, A6, n6, c6, A'6, n'6, c'6, rfl, h6, hb6⟩; have q6 : Below w3.heap.size w3 w6 := bnext q5 hb6; replace h := h.belw hb6; replace h' := h'.belw hb6; replace h1 := h1.belw hb6; replace h'1 := h'1.belw hb6; replace h2 := h2.belw hb6; replace h'2 := h'2.belw hb6; replace h4 := h4.belw hb6; replace h5 := h5.belw hb6; have x1c := x1c.b q6; obtain ⟨cx1ca, cx1cb, cx1cc⟩ := x1c.c3; obtain ⟨fx1ca, fx1cb, fx1cc⟩ := x1c.f3))
  have bw6 := bw3.trans (q6.mono bw3.size)
  clear lx1aa lx1ab lx1ac lx1ad lx1ba lx1bb lx1bc lx1bd cx1ca fx1ca cx1cb fx1cb cx1cc fx1cc lx1ca lx1cb lx1cc lx1cd cx2aa cx2ab lx2aa lx2ab lx2ac lx2ad cx2ba cx2bb lx2ba lx2bb lx2bc lx2bd cx3aa cx3ab lx3aa lx3ab lx3ac lx3ad cx3ba cx3bb lx3ba lx3bb lx3bc lx3bd
  replace x1a := x1a.b q6
  replace x1b := x1b.b q6
  replace x2a := x2a.b q6
  replace x2b := x2b.b q6
  replace x3a := x3a.b q6
  replace x3b := x3b.b q6
  have lw6 := q6.size
  obtain ⟨cx1ca, cx1cb, cx1cc⟩ := x1c.c3
  obtain ⟨fx1ca, fx1cb, fx1cc⟩ := x1c.f3
  go_wp2_with fail
  refine bodyPost_ret (v := .agg #[.bool b6, .slice A6 n6 c6, .slice A'6 n'6 c'6]) (by simp [results, Tryz.results68, go_sem, *] <;> first | rfl | exact ⟨rfl, rfl⟩) rfl ?_
  exact ⟨b6, A6, n6, c6, A'6, n'6, c'6, rfl, h6.keep ((((Kp.refl w6).sb (w.heap.size + 1 + 1) 0 x1c.box (by decide) (.bool b6)).sb (w.heap.size + 1 + 1) 1 (x1c.box.set ⟨w.heap.size + 1 + 1, 0, none⟩ (.bool b6)) (by decide) (.slice A6 n6 c6)).sb (w.heap.size + 1 + 1) 2 ((x1c.box.set ⟨w.heap.size + 1 + 1, 0, none⟩ (.bool b6)).set ⟨w.heap.size + 1 + 1, 1, none⟩ (.slice A6 n6 c6)) (by decide) (.slice A'6 n'6 c'6)), (((bw6.sc (w.heap.size + 1 + 1) 0 (by omega) (.bool b6)).sc (w.heap.size + 1 + 1) 1 (by omega) (.slice A6 n6 c6)).sc (w.heap.size + 1 + 1) 2 (by omega) (.slice A'6 n'6 c'6))⟩
theorem g_div (w : World) (b : Bool) (A : Option Addr) (n c : Nat) (D : Option Addr) (m e : Nat) (q : Rat) (k : Nat) (h : QZ w b A n c D m e q k) (b' : Bool) (A' : Option Addr) (n' c' : Nat) (D' : Option Addr) (m' e' : Nat) (q' : Rat) (k' : Nat) (h' : QZ w b' A' n' c' D' m' e' q' k') (h0 : 0 < k) (hk : k ≤ 40000000) (h0' : 0 < k') (hk' : k' ≤ 40000000) (hne : q' ≠ 0) :
    Calls Tryz.prog 61 #[.agg #[.bool b, .slice A n c, .slice D m e], .agg #[.bool b', .slice A' n' c', .slice D' m' e']] w (RetFe w (.int .i64 0) (q / q') (k + k')) := by
  have HS := Lib.hid (h.sz h0)
  have HS' := Lib.hid (h'.sz h0')
  have HN := Lib.hid hne
  clear hne
  go_enter Tryz.func61, Tryz.ntmps61
  go_wp2_with fail
  (with_reducible refine (g_parts _ b A n c D m e (q) (k) ?_ ?_ ?_).mono ?_); (exact (h.belw ((((Below.refl _ _).alloc (Nat.le_refl _) _).alloc (by simp) _).alloc (by simp <;> omega) _))); (first | omega | decide | assumption); (first | omega | decide | assumption); rintro e w1 ⟨b1, A1, n1, c1, b'1, A'1, n'1, c'1, rfl, h1, h'1, hb1⟩
  have q1 := ((((Below.refl _ _).alloc (Nat.le_refl _) _).alloc (by simp) _).alloc (by simp <;> omega) _).trans (hb1.mono (by simp <;> omega))
  replace h := h.belw q1
  replace h' := h'.belw q1
  have x1a : Blk w1 w.heap.size 24 #[.bool b, .slice A n c, .slice D m e] := (((blkAt _ _ _ (by simp)).alloc _).alloc _).below hb1 (by simp <;> omega)
  have x1b := ((blkAt _ _ _ (g := w.heap.size + 1) (by simp)).alloc _).below hb1 (by simp <;> omega)
  have x1c := (blkAt _ _ _ (g := w.heap.size + 1 + 1) (by simp)).below hb1 (by simp)
  have bw1 := (brefl w).trans (q1.mono (brefl w).size)
  have lw1 : w.heap.size + 3 ≤ w1.heap.size := by have := hb1.size; simp at this; omega
  clear q1
  obtain ⟨cx1ba, cx1bb, cx1bc⟩ := x1b.c3
  obtain ⟨lx1ba, lx1bb, lx1bc, lx1bd⟩ := lts1 x1b.lt
  go_wp2_with fail
  (with_reducible refine (g_parts _ b' A' n' c' D' m' e' (q') (k') ?_ ?_ ?_).mono ?_); (exact (h'.belw (((Below.refl _ _).alloc (Nat.le_refl _) _).alloc (by simp) _))); (first | omega | decide | assumption); (first | omega | decide | assumption); rintro e w2 ⟨b2, A2, n2, c2, b'2, A'2, n'2, c'2, rfl, h2, h'2, hb2⟩
  clear cx1ba cx1bb cx1bc lx1ba lx1bb lx1bc lx1bd
  have q2 := (((Below.refl _ _).alloc (Nat.le_refl _) _).alloc (by simp) _).trans (hb2.mono (by simp <;> omega))
  replace h := h.belw q2
  replace h' := h'.belw q2
  replace h1 := h1.belw q2
  replace h'1 := h'1.belw q2
  replace x1a := x1a.b q2
  replace x1b := x1b.b q2
  replace x1c := x1c.b q2
  have x2a : Blk w2 w1.heap.size 46 #[.bool b1, .slice A1 n1 c1] := ((blkAt _ _ _ (by simp)).alloc _).below hb2 (by simp <;> omega)
  have x2b := (blkAt _ _ _ (g := w1.heap.size + 1) (by simp)).below hb2 (by simp)
  have bw2 := bw1.trans (q2.mono bw1.size)
  have lw2 : w1.heap.size + 2 ≤ w2.heap.size := by have := hb2.size; simp at this; omega
  clear q2 bw1
  go_wp2_with fail
  have p3 := (((Kp.refl w2).alloc (.cells #[.bool b2, .slice A2 n2 c2] 46)).alloc (.cells #[.bool b'2, .slice A'2 n'2 c'2] 46))
  have bw3 := ((bw2.alloc (by first | omega | (simp <;> omega)) (.cells #[.bool b2, .slice A2 n2 c2] 46)).alloc (by first | omega | (simp <;> omega)) (.cells #[.bool b'2, .slice A'2 n'2 c'2] 46))
  have x3a : Blk ((w2.alloc (.cells #[.bool b2, .slice A2 n2 c2] 46)).alloc (.cells #[.bool b'2, .slice A'2 n'2 c'2] 46)) w2.heap.size 46 #[.bool b2, .slice A2 n2 c2] := ((blkAt _ _ _ (by simp)).alloc (.cells #[.bool b'2, .slice A'2 n'2 c'2] 46))
  have x3b : Blk ((w2.alloc (.cells #[.bool b2, .slice A2 n2 c2] 46)).alloc (.cells #[.bool b'2, .slice A'2 n'2 c'2] 46)) (w2.heap.size + 1) 46 #[.bool b'2, .slice A'2 n'2 c'2] := (blkAt _ _ _ (by simp))
  replace x1a := ((x1a.alloc (.cells #[.bool b2, .slice A2 n2 c2] 46)).alloc (.cells #[.bool b'2, .slice A'2 n'2 c'2] 46))
  replace x1b := ((x1b.alloc (.cells #[.bool b2, .slice A2 n2 c2] 46)).alloc (.cells #[.bool b'2, .slice A'2 n'2 c'2] 46))
  replace x1c := ((x1c.alloc (.cells #[.bool b2, .slice A2 n2 c2] 46)).alloc (.cells #[.bool b'2, .slice A'2 n'2 c'2] 46))
  replace x2a := ((x2a.alloc (.cells #[.bool b2, .slice A2 n2 c2] 46)).alloc (.cells #[.bool b'2, .slice A'2 n'2 c'2] 46))
  replace x2b := ((x2b.alloc (.cells #[.bool b2, .slice A2 n2 c2] 46)).alloc (.cells #[.bool b'2, .slice A'2 n'2 c'2] 46))
  have lw3 : w2.heap.size + 2 ≤ ((w2.alloc (.cells #[.bool b2, .slice A2 n2 c2] 46)).alloc (.cells #[.bool b'2, .slice A'2 n'2 c'2] 46)).heap.size := by simp
  generalize hE3 : ((w2.alloc (.cells #[.bool b2, .slice A2 n2 c2] 46)).alloc (.cells #[.bool b'2, .slice A'2 n'2 c'2] 46)) = w3 at p3 bw3 lw3 x3a x3b x1a x1b x1c x2a x2b ⊢
  clear hE3
  replace h := h.keep p3
  replace h' := h'.keep p3
  replace h1 := h1.keep p3
  replace h'1 := h'1.keep p3
  replace h2 := h2.keep p3
  replace h'2 := h'2.keep p3
  clear bw2
  obtain ⟨lx1aa, lx1ab, lx1ac, lx1ad⟩ := lts0 x1a.lt
  obtain ⟨lx1ba, lx1bb, lx1bc, lx1bd⟩ := lts1 x1b.lt
  have cx1ca : w3.cell? ⟨w.heap.size + 1 + 1, 0, none⟩ = some (.bool false) := x1c.cell 0
  have fx1ca : w3.frozen? ⟨w.heap.size + 1 + 1, 0, none⟩ = false := x1c.frozen 0
  have cx1cb : w3.cell? ⟨w.heap.size + 1 + 1, 1, none⟩ = some (.slice none 0 0) := x1c.cell 1
  have fx1cb : w3.frozen? ⟨w.heap.size + 1 + 1, 1, none⟩ = false := x1c.frozen 1
  have cx1cc : w3.cell? ⟨w.heap.size + 1 + 1, 2, none⟩ = some (.slice none 0 0) := x1c.cell 2
  have fx1cc : w3.frozen? ⟨w.heap.size + 1 + 1, 2, none⟩ = false := x1c.frozen 2
  obtain ⟨lx1ca, lx1cb, lx1cc, lx1cd⟩ := lts2 x1c.lt
  obtain ⟨cx2aa, cx2ab⟩ := x2a.c2
  obtain ⟨lx2aa, lx2ab, lx2ac, lx2ad⟩ := lts0 x2a.lt
  obtain ⟨cx2ba, cx2bb⟩ := x2b.c2
  obtain ⟨lx2ba, lx2bb, lx2bc, lx2bd⟩ := lts1 x2b.lt
  obtain ⟨cx3aa, cx3ab⟩ := x3a.c2
  obtain ⟨lx3aa, lx3ab, lx3ac, lx3ad⟩ := lts0 x3a.lt
  obtain ⟨cx3ba, cx3bb⟩ := x3b.c2
  obtain ⟨lx3ba, lx3bb, lx3bc, lx3bd⟩ := lts1 x3b.lt
  have nfx1_0_0 : ¬ w.heap.size = w.heap.size + 1 + 1 := by omega
  have nex1_0_0 : ¬ w.heap.size = w.heap.size + 2 := by omega
  have nfx1_1_0 : ¬ w.heap.size + 1 = w.heap.size + 1 + 1 := by omega
  have nex1_1_0 : ¬ w.heap.size = w.heap.size + 1 := by omega
  have nfx2_0_0 : ¬ w1.heap.size = w.heap.size + 1 + 1 := by omega
  have nex2_0_0 : ¬ w1.heap.size = w.heap.size + 2 := by omega
  have nfx2_1_0 : ¬ w1.heap.size + 1 = w.heap.size + 1 + 1 := by omega
  have nex2_1_0 : ¬ w1.heap.size = w.heap.size + 1 := by omega
  have nfx3_0_0 : ¬ w2.heap.size = w.heap.size + 1 + 1 := by omega
  have nex3_0_0 : ¬ w2.heap.size = w.heap.size + 2 := by omega
  have nfx3_1_0 : ¬ w2.heap.size + 1 = w.heap.size + 1 + 1 := by omega
  have nex3_1_0 : ¬ w2.heap.size = w.heap.size + 1 := by omega
  go_region_held3 (fun w' => SeesX w3.heap.size (w.heap.size + 1 + 1) w3 w') (first | with_reducible exact SeesX.of (Nat.le_refl _) (by assumption) | with_reducible exact SeesX.of (Nat.le_refl _) (brefl _).drew | with_reducible exact (SeesX.set (SeesX.set (SeesX.set (SeesX.of (Nat.le_refl _) (by assumption))))) | with_reducible exact (SeesX.set (SeesX.set (SeesX.of (Nat.le_refl _) (by assumption)))) | with_reducible exact (SeesX.set (SeesX.of (Nat.le_refl _) (by assumption))) | exact SeesX.of (Nat.le_refl _) (below_drewN (brefl _) 1) | exact SeesX.of (Nat.le_refl _) (below_drewN (by assumption) _))
    (first
      | (go_at_call 112; (with_reducible refine (r01_mul _ b1 A1 n1 c1 ((q).num) ((k)) ?_ b'2 A'2 n'2 c'2 (((q').den : Int)) ((k')) ?_ ?_).mono ?_); (exact h1.iz); (exact h'2.iz); (first | omega | decide | assumption); rintro e w4 ⟨b4, A4, n4, c4, rfl, h4, hb4⟩; replace hb4 := bnext (below_drewN (brefl _) 1) hb4; have q4 : Below w3.heap.size w3 w4 := bnext (brefl w3) hb4; replace h := h.belw hb4; replace h' := h'.belw hb4; replace h1 := h1.belw hb4; replace h'1 := h'1.belw hb4; replace h2 := h2.belw hb4; replace h'2 := h'2.belw hb4)
      | (go_at_call 112; (with_reducible refine (r01_mul _ b'1 A'1 n'1 c'1 (((q).den : Int)) ((k)) ?_ b2 A2 n2 c2 ((q').num) ((k')) ?_ ?_).mono ?_); (exact h'1.iz); (exact h2.iz); (first | omega | decide | assumption); rintro e w5 ⟨b5, A5, n5, c5, rfl, h5, hb5⟩; have q5 : Below w3.heap.size w3 w5 := bnext q4 hb5; replace h := h.belw hb5; replace h' := h'.belw hb5; replace h1 := h1.belw hb5; replace h'1 := h'1.belw hb5; replace h2 := h2.belw hb5; replace h'2 := h'2.belw hb5; replace h4 := h4.belw hb5)
      | (go_at_call 29; (with_reducible refine (g_from _ b4 A4 n4 c4 (((q).num) * (((q').den : Int))) (((k)) + ((k'))) ?_ b5 A5 n5 c5 ((((q).den : Int)) * ((q').num)) (((k)) + ((k'))) ?_ (q / q') (k + k') ?_ ?_ ?_ ?_).mono ?_); (exact h4.iz); (exact h5.iz); (exact Int.mul_ne_zero (den_ne _) (fun x => HN.out (Rat.num_eq_zero.1 x))); (exact (div_q _ _ HN.out).symm); (exact Sz_div HS.out HS'.out HN.out); (omega); rintro e w6 ⟨b6, A6, n6, c6, A'6, n'6, c'6, rfl, h6, hb6⟩; have q6 : Below w3.heap.size w3 w6 := bnext q5 hb6; replace h := h.belw hb6; replace h' := h'.belw hb6; replace h1 := h1.belw hb6; replace h'1 := h'1.belw hb6; replace h2 := h2.belw hb6; replace h'2 := h'2.belw hb6; replace h4 := h4.belw hb6; replace h5 := h5.belw hb6; have x1c := x1c.b q6; obtain ⟨cx1ca, cx1cb, cx1cc⟩ := x1c.c3; obtain ⟨fx1ca, fx1cb, fx1cc⟩ := x1c.f3))
  have bw6 := bw3.trans (q6.mono bw3.size)
  clear lx1aa lx1ab lx1ac lx1ad lx1ba lx1bb lx1bc lx1bd cx1ca fx1ca cx1cb fx1cb cx1cc fx1cc lx1ca lx1cb lx1cc lx1cd cx2aa cx2ab lx2aa lx2ab lx2ac lx2ad cx2ba cx2bb lx2ba lx2bb lx2bc lx2bd cx3aa cx3ab lx3aa lx3ab lx3ac lx3ad cx3ba cx3bb lx3ba lx3bb lx3bc lx3bd
  replace x1a := x1a.b q6
  replace x1b := x1b.b q6
  replace x2a := x2a.b q6
  replace x2b := x2b.b q6
  replace x3a := x3a.b q6
  replace x3b := x3b.b q6
  have lw6 := q6.size
  obtain ⟨cx1ca, cx1cb, cx1cc⟩ := x1c.c3
  obtain ⟨fx1ca, fx1cb, fx1cc⟩ := x1c.f3
  go_wp2_with fail
  refine bodyPost_ret (v := .tuple #[.agg #[.bool b6, .slice A6 n6 c6, .slice A'6 n'6 c'6], .int .i64 0]) (by simp [results, Tryz.results61, go_sem, *] <;> first | rfl | exact ⟨rfl, rfl⟩) rfl ?_
  exact ⟨b6, A6, n6, c6, A'6, n'6, c'6, rfl, h6.keep ((((Kp.refl w6).sb (w.heap.size + 1 + 1) 0 x1c.box (by decide) (.bool b6)).sb (w.heap.size + 1 + 1) 1 (x1c.box.set ⟨w.heap.size + 1 + 1, 0, none⟩ (.bool b6)) (by decide) (.slice A6 n6 c6)).sb (w.heap.size + 1 + 1) 2 ((x1c.box.set ⟨w.heap.size + 1 + 1, 0, none⟩ (.bool b6)).set ⟨w.heap.size + 1 + 1, 1, none⟩ (.slice A6 n6 c6)) (by decide) (.slice A'6 n'6 c'6)), (((bw6.sc (w.heap.size + 1 + 1) 0 (by omega) (.bool b6)).sc (w.heap.size + 1 + 1) 1 (by omega) (.slice A6 n6 c6)).sc (w.heap.size + 1 + 1) 2 (by omega) (.slice A'6 n'6 c'6))⟩
end Go.Proofs.YtkpjhmpjihchpaaGreatDoor

namespace Bn
open Go.Lib
def powQ (q : Rat) : Nat → Rat
  | 0 => 1
  | k + 1 => powQ q k * q
end Bn

namespace Go.Proofs.YtkpjhmpjihchpaaGreatDoor
open Go Go.RowKit Bn
attribute [local go_sem ↓] Go.wp_at_zero Go.wp_at_succ
theorem cmpI_rc (a b : Rat) : cmpI (a.num * b.den) (b.num * a.den) = rcmp a b := by
  unfold cmpI rcmp
  have h := cmp_q a b
  by_cases h1 : a < b
  · rw [if_pos h1, if_pos (h.1.2 h1)]
  · rw [if_neg h1, if_neg (fun x => h1 (h.1.1 x))]
    by_cases h2 : a = b
    · rw [if_pos h2, if_pos (h.2.2 h2)]
    · rw [if_neg h2, if_neg (fun x => h2 (h.2.1 x))]
theorem sub_rc (q q' : Rat) : (q - q').num.sign = rcmp q q' := by
  have h1 := sign_q (q - q')
  rw [h1]
  unfold rcmp
  have h2 : (q - q' < 0) ↔ q < q' := by constructor <;> intro h <;> grind
  have h3 : (q - q' = 0) ↔ q = q' := by constructor <;> intro h <;> grind
  by_cases h4 : q < q'
  · rw [if_pos h4, if_pos (h2.2 h4)]
  · rw [if_neg h4, if_neg (fun h => h4 (h2.1 h))]
    by_cases h5 : q = q'
    · rw [if_pos h5, if_pos (h3.2 h5)]
    · rw [if_neg h5, if_neg (fun h => h5 (h3.1 h))]
theorem f_sign_v (w : World) (b : Bool) (A : Option Addr) (n c : Nat) (D : Option Addr) (m e : Nat) (q : Rat) (k : Nat) (h : QZ w b A n c D m e q k) (s : Int) (hs : q.num.sign = s) (h0 : 0 < k) (hk : k ≤ 40000000) : Calls Tryz.prog 44 #[.agg #[.bool b, .slice A n c, .slice D m e]] w (RetV w (.int .i64 s)) := by subst hs; exact f_sign w b A n c D m e q k h h0 hk
theorem g_sign_v (w : World) (b : Bool) (A : Option Addr) (n c : Nat) (D : Option Addr) (m e : Nat) (q : Rat) (k : Nat) (h : QZ w b A n c D m e q k) (s : Int) (hs : q.num.sign = s) (h0 : 0 < k) (hk : k ≤ 40000000) : Calls Tryz.prog 65 #[.agg #[.bool b, .slice A n c, .slice D m e]] w (RetV w (.int .i64 s)) := by subst hs; exact g_sign w b A n c D m e q k h h0 hk
theorem f_cmp_v (w : World) (b : Bool) (A : Option Addr) (n c : Nat) (D : Option Addr) (m e : Nat) (q : Rat) (k : Nat) (h : QZ w b A n c D m e q k) (b' : Bool) (A' : Option Addr) (n' c' : Nat) (D' : Option Addr) (m' e' : Nat) (q' : Rat) (k' : Nat) (h' : QZ w b' A' n' c' D' m' e' q' k') (s : Int) (hs : rcmp q q' = s) (h0 : 0 < k) (hk : k ≤ 40000000) (h0' : 0 < k') (hk' : k' ≤ 40000000) : Calls Tryz.prog 41 #[.agg #[.bool b, .slice A n c, .slice D m e], .agg #[.bool b', .slice A' n' c', .slice D' m' e']] w (RetV w (.int .i64 s)) := by
  subst hs; rw [← cmpI_rc]; exact f_cmp w b A n c D m e q k h b' A' n' c' D' m' e' q' k' h' h0 hk h0' hk'
theorem g_cmp_v (w : World) (b : Bool) (A : Option Addr) (n c : Nat) (D : Option Addr) (m e : Nat) (q : Rat) (k : Nat) (h : QZ w b A n c D m e q k) (b' : Bool) (A' : Option Addr) (n' c' : Nat) (D' : Option Addr) (m' e' : Nat) (q' : Rat) (k' : Nat) (h' : QZ w b' A' n' c' D' m' e' q' k') (s : Int) (hs : rcmp q q' = s) (h0 : 0 < k) (hk : k ≤ 10000000) (h0' : 0 < k') (hk' : k' ≤ 10000000) : Calls Tryz.prog 69 #[.agg #[.bool b, .slice A n c, .slice D m e], .agg #[.bool b', .slice A' n' c', .slice D' m' e']] w (RetV w (.int .i64 s)) := by
  subst hs; rw [← sub_rc]; exact g_cmp w b A n c D m e q k h b' A' n' c' D' m' e' q' k' h' h0 hk h0' hk'
theorem f_from_0 (w : World) (b : Bool) (A : Option Addr) (n c : Nat) (z : Int) (k : Nat) (h : IZ w b A n c z k) (b' : Bool) (A' : Option Addr) (n' c' : Nat) (z' : Int) (k' : Nat) (h' : IZ w b' A' n' c' z' k') (hd : z' = 0) (hk : k + k' ≤ 300000000) :
  Calls Tryz.prog 26 #[.agg #[.bool b, .slice A n c], .agg #[.bool b', .slice A' n' c']] w (RetFe w (.iface 77 (.int .i64 8)) 0 1) := by
 have HS := Lib.hid (show z'.sign = 0 by rw [hd]; rfl)
 clear hd
 go_enter Tryz.func26, Tryz.ntmps26
 go_wp2_with fail
 (with_reducible refine (i_sign_e _ b' A' n' c' (z') (k') ?_ 0 ?_ ?_).mono ?_); (exact (h'.belw ((((Below.refl _ _).alloc (Nat.le_refl _) _).alloc (by simp) _).alloc (by simp <;> omega) _))); (exact HS.out); (omega); rintro e w1 ⟨rfl, hb1⟩
 have q1 := ((((Below.refl _ _).alloc (Nat.le_refl _) _).alloc (by simp) _).alloc (by simp <;> omega) _).trans (hb1.mono (by simp <;> omega))
 replace h := h.belw q1
 replace h' := h'.belw q1
 have x1a : Blk w1 w.heap.size 46 #[.bool b, .slice A n c] := (((blkAt _ _ _ (by simp)).alloc _).alloc _).below hb1 (by simp <;> omega)
 have x1b := ((blkAt _ _ _ (g := w.heap.size + 1) (by simp)).alloc _).below hb1 (by simp <;> omega)
 have x1c := (blkAt _ _ _ (g := w.heap.size + 1 + 1) (by simp)).below hb1 (by simp)
 have bw1 := (brefl w).trans (q1.mono (brefl w).size)
 have lw1 : w.heap.size + 3 ≤ w1.heap.size := by have := hb1.size; simp at this; omega
 clear q1
 obtain ⟨cx1ca, cx1cb, cx1cc⟩ := x1c.c3
 obtain ⟨fx1ca, fx1cb, fx1cc⟩ := x1c.f3
 obtain ⟨lx1ca, lx1cb, lx1cc, lx1cd⟩ := lts2 x1c.lt
 go_wp2_with fail
 refine bodyPost_ret (v := .tuple #[.agg #[.bool false, .slice none 0 0, .slice none 0 0], .iface 77 (.int .i64 8)]) (by simp [results, Tryz.results26, go_sem, *] <;> first | rfl | exact ⟨rfl, rfl⟩) rfl ?_
 exact ⟨_, _, _, _, _, _, _, rfl, QV.zero _ _, (((bw1.sc (w.heap.size + 1 + 1) 0 (by omega) (.bool false)).sc (w.heap.size + 1 + 1) 1 (by omega) (.slice none 0 0)).sc (w.heap.size + 1 + 1) 2 (by omega) (.slice none 0 0))⟩
theorem f_div_0 (w : World) (b : Bool) (A : Option Addr) (n c : Nat) (D : Option Addr) (m e : Nat) (q : Rat) (k : Nat) (h : QZ w b A n c D m e q k) (b' : Bool) (A' : Option Addr) (n' c' : Nat) (D' : Option Addr) (m' e' : Nat) (q' : Rat) (k' : Nat) (h' : QZ w b' A' n' c' D' m' e' q' k') (h0 : 0 < k) (hk : k ≤ 40000000) (h0' : 0 < k') (hk' : k' ≤ 40000000) (hz : q' = 0) :
    Calls Tryz.prog 56 #[.agg #[.bool b, .slice A n c, .slice D m e], .agg #[.bool b', .slice A' n' c', .slice D' m' e']] w (RetFe w (.iface 77 (.int .i64 8)) 0 1) := by
  have HD := Lib.hid (show (q.den : Int) * q'.num = 0 by rw [hz, show (0 : Rat).num = 0 from rfl, Int.mul_zero])
  clear hz
  go_enter Tryz.func56, Tryz.ntmps56
  go_wp2_with fail
  (with_reducible refine (f_parts _ b A n c D m e (q) (k) ?_ ?_ ?_).mono ?_); (exact (h.belw ((((Below.refl _ _).alloc (Nat.le_refl _) _).alloc (by simp) _).alloc (by simp <;> omega) _))); (first | omega | decide | assumption); (first | omega | decide | assumption); rintro e w1 ⟨b1, A1, n1, c1, b'1, A'1, n'1, c'1, rfl, h1, h'1, hb1⟩
  have q1 := ((((Below.refl _ _).alloc (Nat.le_refl _) _).alloc (by simp) _).alloc (by simp <;> omega) _).trans (hb1.mono (by simp <;> omega))
  replace h := h.belw q1
  replace h' := h'.belw q1
  have x1a : Blk w1 w.heap.size 24 #[.bool b, .slice A n c, .slice D m e] := (((blkAt _ _ _ (by simp)).alloc _).alloc _).below hb1 (by simp <;> omega)
  have x1b := ((blkAt _ _ _ (g := w.heap.size + 1) (by simp)).alloc _).below hb1 (by simp <;> omega)
  have x1c := (blkAt _ _ _ (g := w.heap.size + 1 + 1) (by simp)).below hb1 (by simp)
  have bw1 := (brefl w).trans (q1.mono (brefl w).size)
  have lw1 : w.heap.size + 3 ≤ w1.heap.size := by have := hb1.size; simp at this; omega
  clear q1
  obtain ⟨cx1ba, cx1bb, cx1bc⟩ := x1b.c3
  obtain ⟨lx1ba, lx1bb, lx1bc, lx1bd⟩ := lts1 x1b.lt
  go_wp2_with fail
  (with_reducible refine (f_parts _ b' A' n' c' D' m' e' (q') (k') ?_ ?_ ?_).mono ?_); (exact (h'.belw (((Below.refl _ _).alloc (Nat.le_refl _) _).alloc (by simp) _))); (first | omega | decide | assumption); (first | omega | decide | assumption); rintro e w2 ⟨b2, A2, n2, c2, b'2, A'2, n'2, c'2, rfl, h2, h'2, hb2⟩
  clear cx1ba cx1bb cx1bc lx1ba lx1bb lx1bc lx1bd
  have q2 := (((Below.refl _ _).alloc (Nat.le_refl _) _).alloc (by simp) _).trans (hb2.mono (by simp <;> omega))
  replace h := h.belw q2
  replace h' := h'.belw q2
  replace h1 := h1.belw q2
  replace h'1 := h'1.belw q2
  replace x1a := x1a.b q2
  replace x1b := x1b.b q2
  replace x1c := x1c.b q2
  have x2a : Blk w2 w1.heap.size 46 #[.bool b1, .slice A1 n1 c1] := ((blkAt _ _ _ (by simp)).alloc _).below hb2 (by simp <;> omega)
  have x2b := (blkAt _ _ _ (g := w1.heap.size + 1) (by simp)).below hb2 (by simp)
  have bw2 := bw1.trans (q2.mono bw1.size)
  have lw2 : w1.heap.size + 2 ≤ w2.heap.size := by have := hb2.size; simp at this; omega
  clear q2 bw1
  go_wp2_with fail
  have p3 := (((Kp.refl w2).alloc (.cells #[.bool b2, .slice A2 n2 c2] 46)).alloc (.cells #[.bool b'2, .slice A'2 n'2 c'2] 46))
  have bw3 := ((bw2.alloc (by first | omega | (simp <;> omega)) (.cells #[.bool b2, .slice A2 n2 c2] 46)).alloc (by first | omega | (simp <;> omega)) (.cells #[.bool b'2, .slice A'2 n'2 c'2] 46))
  have x3a : Blk ((w2.alloc (.cells #[.bool b2, .slice A2 n2 c2] 46)).alloc (.cells #[.bool b'2, .slice A'2 n'2 c'2] 46)) w2.heap.size 46 #[.bool b2, .slice A2 n2 c2] := ((blkAt _ _ _ (by simp)).alloc (.cells #[.bool b'2, .slice A'2 n'2 c'2] 46))
  have x3b : Blk ((w2.alloc (.cells #[.bool b2, .slice A2 n2 c2] 46)).alloc (.cells #[.bool b'2, .slice A'2 n'2 c'2] 46)) (w2.heap.size + 1) 46 #[.bool b'2, .slice A'2 n'2 c'2] := (blkAt _ _ _ (by simp))
  replace x1a := ((x1a.alloc (.cells #[.bool b2, .slice A2 n2 c2] 46)).alloc (.cells #[.bool b'2, .slice A'2 n'2 c'2] 46))
  replace x1b := ((x1b.alloc (.cells #[.bool b2, .slice A2 n2 c2] 46)).alloc (.cells #[.bool b'2, .slice A'2 n'2 c'2] 46))
  replace x1c := ((x1c.alloc (.cells #[.bool b2, .slice A2 n2 c2] 46)).alloc (.cells #[.bool b'2, .slice A'2 n'2 c'2] 46))
  replace x2a := ((x2a.alloc (.cells #[.bool b2, .slice A2 n2 c2] 46)).alloc (.cells #[.bool b'2, .slice A'2 n'2 c'2] 46))
  replace x2b := ((x2b.alloc (.cells #[.bool b2, .slice A2 n2 c2] 46)).alloc (.cells #[.bool b'2, .slice A'2 n'2 c'2] 46))
  have lw3 : w2.heap.size + 2 ≤ ((w2.alloc (.cells #[.bool b2, .slice A2 n2 c2] 46)).alloc (.cells #[.bool b'2, .slice A'2 n'2 c'2] 46)).heap.size := by simp
  generalize hE3 : ((w2.alloc (.cells #[.bool b2, .slice A2 n2 c2] 46)).alloc (.cells #[.bool b'2, .slice A'2 n'2 c'2] 46)) = w3 at p3 bw3 lw3 x3a x3b x1a x1b x1c x2a x2b ⊢
  clear hE3
  replace h := h.keep p3
  replace h' := h'.keep p3
  replace h1 := h1.keep p3
  replace h'1 := h'1.keep p3
  replace h2 := h2.keep p3
  replace h'2 := h'2.keep p3
  clear bw2
  obtain ⟨lx1aa, lx1ab, lx1ac, lx1ad⟩ := lts0 x1a.lt
  obtain ⟨lx1ba, lx1bb, lx1bc, lx1bd⟩ := lts1 x1b.lt
  have cx1ca : w3.cell? ⟨w.heap.size + 1 + 1, 0, none⟩ = some (.bool false) := x1c.cell 0
  have fx1ca : w3.frozen? ⟨w.heap.size + 1 + 1, 0, none⟩ = false := x1c.frozen 0
  have cx1cb : w3.cell? ⟨w.heap.size + 1 + 1, 1, none⟩ = some (.slice none 0 0) := x1c.cell 1
  have fx1cb : w3.frozen? ⟨w.heap.size + 1 + 1, 1, none⟩ = false := x1c.frozen 1
  have cx1cc : w3.cell? ⟨w.heap.size + 1 + 1, 2, none⟩ = some (.slice none 0 0) := x1c.cell 2
  have fx1cc : w3.frozen? ⟨w.heap.size + 1 + 1, 2, none⟩ = false := x1c.frozen 2
  obtain ⟨lx1ca, lx1cb, lx1cc, lx1cd⟩ := lts2 x1c.lt
  obtain ⟨cx2aa, cx2ab⟩ := x2a.c2
  obtain ⟨lx2aa, lx2ab, lx2ac, lx2ad⟩ := lts0 x2a.lt
  obtain ⟨cx2ba, cx2bb⟩ := x2b.c2
  obtain ⟨lx2ba, lx2bb, lx2bc, lx2bd⟩ := lts1 x2b.lt
  obtain ⟨cx3aa, cx3ab⟩ := x3a.c2
  obtain ⟨lx3aa, lx3ab, lx3ac, lx3ad⟩ := lts0 x3a.lt
  obtain ⟨cx3ba, cx3bb⟩ := x3b.c2
  obtain ⟨lx3ba, lx3bb, lx3bc, lx3bd⟩ := lts1 x3b.lt
  have nfx1_0_0 : ¬ w.heap.size = w.heap.size + 1 + 1 := by omega
  have nex1_0_0 : ¬ w.heap.size = w.heap.size + 2 := by omega
  have nfx1_1_0 : ¬ w.heap.size + 1 = w.heap.size + 1 + 1 := by omega
  have nex1_1_0 : ¬ w.heap.size = w.heap.size + 1 := by omega
  have nfx2_0_0 : ¬ w1.heap.size = w.heap.size + 1 + 1 := by omega
  have nex2_0_0 : ¬ w1.heap.size = w.heap.size + 2 := by omega
  have nfx2_1_0 : ¬ w1.heap.size + 1 = w.heap.size + 1 + 1 := by omega
  have nex2_1_0 : ¬ w1.heap.size = w.heap.size + 1 := by omega
  have nfx3_0_0 : ¬ w2.heap.size = w.heap.size + 1 + 1 := by omega
  have nex3_0_0 : ¬ w2.heap.size = w.heap.size + 2 := by omega
  have nfx3_1_0 : ¬ w2.heap.size + 1 = w.heap.size + 1 + 1 := by omega
  have nex3_1_0 : ¬ w2.heap.size = w.heap.size + 1 := by omega
  go_region_held3 (fun w' => SeesX w3.heap.size (w.heap.size + 1 + 1) w3 w') (first | with_reducible exact SeesX.of (Nat.le_refl _) (by assumption) | with_reducible exact SeesX.of (Nat.le_refl _) (brefl _).drew | with_reducible exact (SeesX.set (SeesX.set (SeesX.set (SeesX.of (Nat.le_refl _) (by assumption))))) | with_reducible exact (SeesX.set (SeesX.set (SeesX.of (Nat.le_refl _) (by assumption)))) | with_reducible exact (SeesX.set (SeesX.of (Nat.le_refl _) (by assumption))) | exact SeesX.of (Nat.le_refl _) (below_drewN (brefl _) 1) | exact SeesX.of (Nat.le_refl _) (below_drewN (by assumption) _))
    (first
      | (go_at_call 106; (with_reducible refine (i_mul _ b1 A1 n1 c1 ((q).num) ((k)) ?_ b'2 A'2 n'2 c'2 (((q').den : Int)) ((k')) ?_ ?_).mono ?_); (exact h1.iz); (exact h'2.iz); (first | omega | decide | assumption); rintro e w4 ⟨b4, A4, n4, c4, rfl, h4, hb4⟩; replace hb4 := bnext (below_drewN (brefl _) 1) hb4; have q4 : Below w3.heap.size w3 w4 := bnext (brefl w3) hb4; replace h := h.belw hb4; replace h' := h'.belw hb4; replace h1 := h1.belw hb4; replace h'1 := h'1.belw hb4; replace h2 := h2.belw hb4; replace h'2 := h'2.belw hb4)
      | (go_at_call 106; (with_reducible refine (i_mul _ b'1 A'1 n'1 c'1 (((q).den : Int)) ((k)) ?_ b2 A2 n2 c2 ((q').num) ((k')) ?_ ?_).mono ?_); (exact h'1.iz); (exact h2.iz); (first | omega | decide | assumption); rintro e w5 ⟨b5, A5, n5, c5, rfl, h5, hb5⟩; have q5 : Below w3.heap.size w3 w5 := bnext q4 hb5; replace h := h.belw hb5; replace h' := h'.belw hb5; replace h1 := h1.belw hb5; replace h'1 := h'1.belw hb5; replace h2 := h2.belw hb5; replace h'2 := h'2.belw hb5; replace h4 := h4.belw hb5)
      | (go_at_call 26; (with_reducible refine (f_from_0 _ b4 A4 n4 c4 (((q).num) * (((q').den : Int))) (((k)) + ((k'))) ?_ b5 A5 n5 c5 ((((q).den : Int)) * ((q').num)) (((k)) + ((k'))) ?_  ?_ ?_).mono ?_); (exact h4.iz); (exact h5.iz); (exact HD.out); (omega); rintro e w6 ⟨b6, A6, n6, c6, A'6, n'6, c'6, rfl, h6, hb6⟩; have q6 : Below w3.heap.size w3 w6 := bnext q5 hb6; replace h := h.belw hb6; replace h' := h'.belw hb6; replace h1 := h1.belw hb6; replace h'1 := h'1.belw hb6; replace h2 := h2.belw hb6; replace h'2 := h'2.belw hb6; replace h4 := h4.belw hb6; replace h5 := h5.belw hb6; have x1c := x1c.b q6; obtain ⟨cx1ca, cx1cb, cx1cc⟩ := x1c.c3; obtain ⟨fx1ca, fx1cb, fx1cc⟩ := x1c.f3))
  have bw6 := bw3.trans (q6.mono bw3.size)
  clear lx1aa lx1ab lx1ac lx1ad lx1ba lx1bb lx1bc lx1bd cx1ca fx1ca cx1cb fx1cb cx1cc fx1cc lx1ca lx1cb lx1cc lx1cd cx2aa cx2ab lx2aa lx2ab lx2ac lx2ad cx2ba cx2bb lx2ba lx2bb lx2bc lx2bd cx3aa cx3ab lx3aa lx3ab lx3ac lx3ad cx3ba cx3bb lx3ba lx3bb lx3bc lx3bd
  replace x1a := x1a.b q6
  replace x1b := x1b.b q6
  replace x2a := x2a.b q6
  replace x2b := x2b.b q6
  replace x3a := x3a.b q6
  replace x3b := x3b.b q6
  have lw6 := q6.size
  obtain ⟨cx1ca, cx1cb, cx1cc⟩ := x1c.c3
  obtain ⟨fx1ca, fx1cb, fx1cc⟩ := x1c.f3
  go_wp2_with fail
  refine bodyPost_ret (v := .tuple #[.agg #[.bool b6, .slice A6 n6 c6, .slice A'6 n'6 c'6], .iface 77 (.int .i64 8)]) (by simp [results, Tryz.results56, go_sem, *] <;> first | rfl | exact ⟨rfl, rfl⟩) rfl ?_
  exact ⟨b6, A6, n6, c6, A'6, n'6, c'6, rfl, h6.keep ((((Kp.refl w6).sb (w.heap.size + 1 + 1) 0 x1c.box (by decide) (.bool b6)).sb (w.heap.size + 1 + 1) 1 (x1c.box.set ⟨w.heap.size + 1 + 1, 0, none⟩ (.bool b6)) (by decide) (.slice A6 n6 c6)).sb (w.heap.size + 1 + 1) 2 ((x1c.box.set ⟨w.heap.size + 1 + 1, 0, none⟩ (.bool b6)).set ⟨w.heap.size + 1 + 1, 1, none⟩ (.slice A6 n6 c6)) (by decide) (.slice A'6 n'6 c'6)), (((bw6.sc (w.heap.size + 1 + 1) 0 (by omega) (.bool b6)).sc (w.heap.size + 1 + 1) 1 (by omega) (.slice A6 n6 c6)).sc (w.heap.size + 1 + 1) 2 (by omega) (.slice A'6 n'6 c'6))⟩
theorem f_abs_n (w : World) (b : Bool) (A : Option Addr) (n c : Nat) (D : Option Addr) (m e : Nat) (q : Rat) (k : Nat) (h : QZ w b A n c D m e q k) (h0 : 0 < k) (hk : k ≤ 40000000) (hx : q.num.sign = -1) :
  Calls Tryz.prog 58 #[.agg #[.bool b, .slice A n c, .slice D m e]] w (RetF w (-q) (k + 2)) := by
 have HX := Lib.hid hx
 have HS := Lib.hid (h.sz h0)
 go_enter Tryz.func58, Tryz.ntmps58
 go_wp2_with fail
 (with_reducible refine (f_sign_v _ b A n c D m e (q) (k) ?_ (-1) ?_ ?_ ?_).mono ?_); (exact (h.belw (((Below.refl _ _).alloc (Nat.le_refl _) _).alloc (by simp) _))); (exact HX.out); (first | omega | decide | assumption); (first | omega | decide | assumption); rintro e w1 ⟨rfl, hb1⟩
 have q1 := (((Below.refl _ _).alloc (Nat.le_refl _) _).alloc (by simp) _).trans (hb1.mono (by simp <;> omega))
 replace h := h.belw q1
 have x1a : Blk w1 w.heap.size 24 #[.bool b, .slice A n c, .slice D m e] := ((blkAt _ _ _ (by simp)).alloc _).below hb1 (by simp <;> omega)
 have x1b := (blkAt _ _ _ (g := w.heap.size + 1) (by simp)).below hb1 (by simp)
 have bw1 := (brefl w).trans (q1.mono (brefl w).size)
 have lw1 : w.heap.size + 2 ≤ w1.heap.size := by have := hb1.size; simp at this; omega
 clear q1
 obtain ⟨cx1aa, cx1ab, cx1ac⟩ := x1a.c3
 obtain ⟨lx1aa, lx1ab, lx1ac, lx1ad⟩ := lts0 x1a.lt
 go_wp2_with fail
 (with_reducible refine (f_neg _ b A n c D m e (q) (k) ?_ ?_ ?_).mono ?_); (exact h); (first | omega | decide | assumption); (first | omega | decide | assumption); rintro e w2 ⟨b2, A2, n2, c2, A'2, n'2, c'2, rfl, h2, q2⟩
 clear cx1aa cx1ab cx1ac lx1aa lx1ab lx1ac lx1ad
 replace h := h.belw q2
 replace x1a := x1a.b q2
 replace x1b := x1b.b q2
 have bw2 := bw1.trans (q2.mono bw1.size)
 have lw2 := q2.size
 clear q2 bw1
 obtain ⟨cx1ba, cx1bb, cx1bc⟩ := x1b.c3
 obtain ⟨fx1ba, fx1bb, fx1bc⟩ := x1b.f3
 obtain ⟨lx1ba, lx1bb, lx1bc, lx1bd⟩ := lts1 x1b.lt
 go_wp2_with fail
 refine bodyPost_ret (v := .agg #[.bool b2, .slice A2 n2 c2, .slice A'2 n'2 c'2]) (by simp [results, Tryz.results58, go_sem, *] <;> first | rfl | exact ⟨rfl, rfl⟩) rfl ?_
 exact ⟨b2, A2, n2, c2, A'2, n'2, c'2, rfl, (h2.keep ((((Kp.refl w2).sb (w.heap.size + 1) 0 x1b.box (by decide) (.bool b2)).sb (w.heap.size + 1) 1 (x1b.box.set ⟨w.heap.size + 1, 0, none⟩ (.bool b2)) (by decide) (.slice A2 n2 c2)).sb (w.heap.size + 1) 2 ((x1b.box.set ⟨w.heap.size + 1, 0, none⟩ (.bool b2)).set ⟨w.heap.size + 1, 1, none⟩ (.slice A2 n2 c2)) (by decide) (.slice A'2 n'2 c'2))).mono (by omega), (((bw2.sc (w.heap.size + 1) 0 (by omega) (.bool b2)).sc (w.heap.size + 1) 1 (by omega) (.slice A2 n2 c2)).sc (w.heap.size + 1) 2 (by omega) (.slice A'2 n'2 c'2))⟩
theorem f_abs_z (w : World) (b : Bool) (A : Option Addr) (n c : Nat) (D : Option Addr) (m e : Nat) (q : Rat) (k : Nat) (h : QZ w b A n c D m e q k) (h0 : 0 < k) (hk : k ≤ 40000000) (hx : q.num.sign = 0) :
  Calls Tryz.prog 58 #[.agg #[.bool b, .slice A n c, .slice D m e]] w (RetF w (q) (k + 2)) := by
 have HX := Lib.hid hx
 have HS := Lib.hid (h.sz h0)
 go_enter Tryz.func58, Tryz.ntmps58
 go_wp2_with fail
 (with_reducible refine (f_sign_v _ b A n c D m e (q) (k) ?_ (0) ?_ ?_ ?_).mono ?_); (exact (h.belw (((Below.refl _ _).alloc (Nat.le_refl _) _).alloc (by simp) _))); (exact HX.out); (first | omega | decide | assumption); (first | omega | decide | assumption); rintro e w1 ⟨rfl, hb1⟩
 have q1 := (((Below.refl _ _).alloc (Nat.le_refl _) _).alloc (by simp) _).trans (hb1.mono (by simp <;> omega))
 replace h := h.belw q1
 have x1a : Blk w1 w.heap.size 24 #[.bool b, .slice A n c, .slice D m e] := ((blkAt _ _ _ (by simp)).alloc _).below hb1 (by simp <;> omega)
 have x1b := (blkAt _ _ _ (g := w.heap.size + 1) (by simp)).below hb1 (by simp)
 have bw1 := (brefl w).trans (q1.mono (brefl w).size)
 have lw1 : w.heap.size + 2 ≤ w1.heap.size := by have := hb1.size; simp at this; omega
 clear q1
 obtain ⟨cx1aa, cx1ab, cx1ac⟩ := x1a.c3
 obtain ⟨lx1aa, lx1ab, lx1ac, lx1ad⟩ := lts0 x1a.lt
 go_wp2_with fail
 (with_reducible refine (f_parts _ b A n c D m e (q) (k) ?_ ?_ ?_).mono ?_); (exact h); (first | omega | decide | assumption); (first | omega | decide | assumption); rintro e w2 ⟨b2, A2, n2, c2, b'2, A'2, n'2, c'2, rfl, h2, h'2, q2⟩
 clear cx1aa cx1ab cx1ac lx1aa lx1ab lx1ac lx1ad
 replace h := h.belw q2
 replace x1a := x1a.b q2
 replace x1b := x1b.b q2
 have bw2 := bw1.trans (q2.mono bw1.size)
 have lw2 := q2.size
 clear q2 bw1
 go_wp2_with fail
 (with_reducible refine (f_form _ b2 A2 n2 c2 ((q).num) ((k)) ?_ b'2 A'2 n'2 c'2 (((q).den : Int)) ((k)) ?_ (q) (k) ?_ ?_ ?_ ?_).mono ?_); (exact h2.iz); (exact h'2.iz); (exact den_ne _); (exact (q_eq q).symm); (exact HS.out); (omega); rintro e w3 ⟨b3, A3, n3, c3, A'3, n'3, c'3, rfl, h3, q3⟩
 replace h := h.belw q3
 replace h2 := h2.belw q3
 replace h'2 := h'2.belw q3
 replace x1a := x1a.b q3
 replace x1b := x1b.b q3
 have bw3 := bw2.trans (q3.mono bw2.size)
 have lw3 := q3.size
 clear q3 bw2
 obtain ⟨cx1ba, cx1bb, cx1bc⟩ := x1b.c3
 obtain ⟨fx1ba, fx1bb, fx1bc⟩ := x1b.f3
 obtain ⟨lx1ba, lx1bb, lx1bc, lx1bd⟩ := lts1 x1b.lt
 go_wp2_with fail
 refine bodyPost_ret (v := .agg #[.bool b3, .slice A3 n3 c3, .slice A'3 n'3 c'3]) (by simp [results, Tryz.results58, go_sem, *] <;> first | rfl | exact ⟨rfl, rfl⟩) rfl ?_
 exact ⟨b3, A3, n3, c3, A'3, n'3, c'3, rfl, (h3.keep ((((Kp.refl w3).sb (w.heap.size + 1) 0 x1b.box (by decide) (.bool b3)).sb (w.heap.size + 1) 1 (x1b.box.set ⟨w.heap.size + 1, 0, none⟩ (.bool b3)) (by decide) (.slice A3 n3 c3)).sb (w.heap.size + 1) 2 ((x1b.box.set ⟨w.heap.size + 1, 0, none⟩ (.bool b3)).set ⟨w.heap.size + 1, 1, none⟩ (.slice A3 n3 c3)) (by decide) (.slice A'3 n'3 c'3))).mono (by omega), (((bw3.sc (w.heap.size + 1) 0 (by omega) (.bool b3)).sc (w.heap.size + 1) 1 (by omega) (.slice A3 n3 c3)).sc (w.heap.size + 1) 2 (by omega) (.slice A'3 n'3 c'3))⟩
theorem f_abs_p (w : World) (b : Bool) (A : Option Addr) (n c : Nat) (D : Option Addr) (m e : Nat) (q : Rat) (k : Nat) (h : QZ w b A n c D m e q k) (h0 : 0 < k) (hk : k ≤ 40000000) (hx : q.num.sign = 1) :
  Calls Tryz.prog 58 #[.agg #[.bool b, .slice A n c, .slice D m e]] w (RetF w (q) (k + 2)) := by
 have HX := Lib.hid hx
 have HS := Lib.hid (h.sz h0)
 go_enter Tryz.func58, Tryz.ntmps58
 go_wp2_with fail
 (with_reducible refine (f_sign_v _ b A n c D m e (q) (k) ?_ (1) ?_ ?_ ?_).mono ?_); (exact (h.belw (((Below.refl _ _).alloc (Nat.le_refl _) _).alloc (by simp) _))); (exact HX.out); (first | omega | decide | assumption); (first | omega | decide | assumption); rintro e w1 ⟨rfl, hb1⟩
 have q1 := (((Below.refl _ _).alloc (Nat.le_refl _) _).alloc (by simp) _).trans (hb1.mono (by simp <;> omega))
 replace h := h.belw q1
 have x1a : Blk w1 w.heap.size 24 #[.bool b, .slice A n c, .slice D m e] := ((blkAt _ _ _ (by simp)).alloc _).below hb1 (by simp <;> omega)
 have x1b := (blkAt _ _ _ (g := w.heap.size + 1) (by simp)).below hb1 (by simp)
 have bw1 := (brefl w).trans (q1.mono (brefl w).size)
 have lw1 : w.heap.size + 2 ≤ w1.heap.size := by have := hb1.size; simp at this; omega
 clear q1
 obtain ⟨cx1aa, cx1ab, cx1ac⟩ := x1a.c3
 obtain ⟨lx1aa, lx1ab, lx1ac, lx1ad⟩ := lts0 x1a.lt
 go_wp2_with fail
 (with_reducible refine (f_parts _ b A n c D m e (q) (k) ?_ ?_ ?_).mono ?_); (exact h); (first | omega | decide | assumption); (first | omega | decide | assumption); rintro e w2 ⟨b2, A2, n2, c2, b'2, A'2, n'2, c'2, rfl, h2, h'2, q2⟩
 clear cx1aa cx1ab cx1ac lx1aa lx1ab lx1ac lx1ad
 replace h := h.belw q2
 replace x1a := x1a.b q2
 replace x1b := x1b.b q2
 have bw2 := bw1.trans (q2.mono bw1.size)
 have lw2 := q2.size
 clear q2 bw1
 go_wp2_with fail
 (with_reducible refine (f_form _ b2 A2 n2 c2 ((q).num) ((k)) ?_ b'2 A'2 n'2 c'2 (((q).den : Int)) ((k)) ?_ (q) (k) ?_ ?_ ?_ ?_).mono ?_); (exact h2.iz); (exact h'2.iz); (exact den_ne _); (exact (q_eq q).symm); (exact HS.out); (omega); rintro e w3 ⟨b3, A3, n3, c3, A'3, n'3, c'3, rfl, h3, q3⟩
 replace h := h.belw q3
 replace h2 := h2.belw q3
 replace h'2 := h'2.belw q3
 replace x1a := x1a.b q3
 replace x1b := x1b.b q3
 have bw3 := bw2.trans (q3.mono bw2.size)
 have lw3 := q3.size
 clear q3 bw2
 obtain ⟨cx1ba, cx1bb, cx1bc⟩ := x1b.c3
 obtain ⟨fx1ba, fx1bb, fx1bc⟩ := x1b.f3
 obtain ⟨lx1ba, lx1bb, lx1bc, lx1bd⟩ := lts1 x1b.lt
 go_wp2_with fail
 refine bodyPost_ret (v := .agg #[.bool b3, .slice A3 n3 c3, .slice A'3 n'3 c'3]) (by simp [results, Tryz.results58, go_sem, *] <;> first | rfl | exact ⟨rfl, rfl⟩) rfl ?_
 exact ⟨b3, A3, n3, c3, A'3, n'3, c'3, rfl, (h3.keep ((((Kp.refl w3).sb (w.heap.size + 1) 0 x1b.box (by decide) (.bool b3)).sb (w.heap.size + 1) 1 (x1b.box.set ⟨w.heap.size + 1, 0, none⟩ (.bool b3)) (by decide) (.slice A3 n3 c3)).sb (w.heap.size + 1) 2 ((x1b.box.set ⟨w.heap.size + 1, 0, none⟩ (.bool b3)).set ⟨w.heap.size + 1, 1, none⟩ (.slice A3 n3 c3)) (by decide) (.slice A'3 n'3 c'3))).mono (by omega), (((bw3.sc (w.heap.size + 1) 0 (by omega) (.bool b3)).sc (w.heap.size + 1) 1 (by omega) (.slice A3 n3 c3)).sc (w.heap.size + 1) 2 (by omega) (.slice A'3 n'3 c'3))⟩
theorem f_min_l (w : World) (b : Bool) (A : Option Addr) (n c : Nat) (D : Option Addr) (m e : Nat) (q : Rat) (k : Nat) (h : QZ w b A n c D m e q k) (b' : Bool) (A' : Option Addr) (n' c' : Nat) (D' : Option Addr) (m' e' : Nat) (q' : Rat) (k' : Nat) (h' : QZ w b' A' n' c' D' m' e' q' k') (h0 : 0 < k) (hk : k ≤ 40000000) (h0' : 0 < k') (hk' : k' ≤ 40000000) (hx : rcmp q q' = -1) :
  Calls Tryz.prog 70 #[.agg #[.bool b, .slice A n c, .slice D m e], .agg #[.bool b', .slice A' n' c', .slice D' m' e']] w (RetF w (q) (k + 2)) := by
 have HX := Lib.hid hx
 have HS := Lib.hid (h.sz h0)
 have HS' := Lib.hid (h'.sz h0')
 go_enter Tryz.func70, Tryz.ntmps70
 go_wp2_with fail
 (with_reducible refine (f_cmp_v _ b A n c D m e (q) (k) ?_ b' A' n' c' D' m' e' (q') (k') ?_ (-1) ?_ ?_ ?_ ?_ ?_).mono ?_); (exact (h.belw ((((Below.refl _ _).alloc (Nat.le_refl _) _).alloc (by simp) _).alloc (by simp <;> omega) _))); (exact (h'.belw ((((Below.refl _ _).alloc (Nat.le_refl _) _).alloc (by simp) _).alloc (by simp <;> omega) _))); (exact HX.out); (first | omega | decide | assumption); (first | omega | decide | assumption); (first | omega | decide | assumption); (first | omega | decide | assumption); rintro e w1 ⟨rfl, hb1⟩
 have q1 := ((((Below.refl _ _).alloc (Nat.le_refl _) _).alloc (by simp) _).alloc (by simp <;> omega) _).trans (hb1.mono (by simp <;> omega))
 replace h := h.belw q1
 replace h' := h'.belw q1
 have x1a : Blk w1 w.heap.size 24 #[.bool b, .slice A n c, .slice D m e] := (((blkAt _ _ _ (by simp)).alloc _).alloc _).below hb1 (by simp <;> omega)
 have x1b := ((blkAt _ _ _ (g := w.heap.size + 1) (by simp)).alloc _).below hb1 (by simp <;> omega)
 have x1c := (blkAt _ _ _ (g := w.heap.size + 1 + 1) (by simp)).below hb1 (by simp)
 have bw1 := (brefl w).trans (q1.mono (brefl w).size)
 have lw1 : w.heap.size + 3 ≤ w1.heap.size := by have := hb1.size; simp at this; omega
 clear q1
 obtain ⟨cx1aa, cx1ab, cx1ac⟩ := x1a.c3
 obtain ⟨lx1aa, lx1ab, lx1ac, lx1ad⟩ := lts0 x1a.lt
 go_wp2_with fail
 (with_reducible refine (f_parts _ b A n c D m e (q) (k) ?_ ?_ ?_).mono ?_); (exact h); (first | omega | decide | assumption); (first | omega | decide | assumption); rintro e w2 ⟨b2, A2, n2, c2, b'2, A'2, n'2, c'2, rfl, h2, h'2, q2⟩
 clear cx1aa cx1ab cx1ac lx1aa lx1ab lx1ac lx1ad
 replace h := h.belw q2
 replace h' := h'.belw q2
 replace x1a := x1a.b q2
 replace x1b := x1b.b q2
 replace x1c := x1c.b q2
 have bw2 := bw1.trans (q2.mono bw1.size)
 have lw2 := q2.size
 clear q2 bw1
 go_wp2_with fail
 (with_reducible refine (f_form _ b2 A2 n2 c2 ((q).num) ((k)) ?_ b'2 A'2 n'2 c'2 (((q).den : Int)) ((k)) ?_ (q) (k) ?_ ?_ ?_ ?_).mono ?_); (exact h2.iz); (exact h'2.iz); (exact den_ne _); (exact (q_eq q).symm); (exact HS.out); (omega); rintro e w3 ⟨b3, A3, n3, c3, A'3, n'3, c'3, rfl, h3, q3⟩
 replace h := h.belw q3
 replace h' := h'.belw q3
 replace h2 := h2.belw q3
 replace h'2 := h'2.belw q3
 replace x1a := x1a.b q3
 replace x1b := x1b.b q3
 replace x1c := x1c.b q3
 have bw3 := bw2.trans (q3.mono bw2.size)
 have lw3 := q3.size
 clear q3 bw2
 obtain ⟨cx1ca, cx1cb, cx1cc⟩ := x1c.c3
 obtain ⟨fx1ca, fx1cb, fx1cc⟩ := x1c.f3
 obtain ⟨lx1ca, lx1cb, lx1cc, lx1cd⟩ := lts2 x1c.lt
 go_wp2_with fail
 refine bodyPost_ret (v := .agg #[.bool b3, .slice A3 n3 c3, .slice A'3 n'3 c'3]) (by simp [results, Tryz.results70, go_sem, *] <;> first | rfl | exact ⟨rfl, rfl⟩) rfl ?_
 exact ⟨b3, A3, n3, c3, A'3, n'3, c'3, rfl, (h3.keep ((((Kp.refl w3).sb (w.heap.size + 1 + 1) 0 x1c.box (by decide) (.bool b3)).sb (w.heap.size + 1 + 1) 1 (x1c.box.set ⟨w.heap.size + 1 + 1, 0, none⟩ (.bool b3)) (by decide) (.slice A3 n3 c3)).sb (w.heap.size + 1 + 1) 2 ((x1c.box.set ⟨w.heap.size + 1 + 1, 0, none⟩ (.bool b3)).set ⟨w.heap.size + 1 + 1, 1, none⟩ (.slice A3 n3 c3)) (by decide) (.slice A'3 n'3 c'3))).mono (by omega), (((bw3.sc (w.heap.size + 1 + 1) 0 (by omega) (.bool b3)).sc (w.heap.size + 1 + 1) 1 (by omega) (.slice A3 n3 c3)).sc (w.heap.size + 1 + 1) 2 (by omega) (.slice A'3 n'3 c'3))⟩
theorem f_min_e (w : World) (b : Bool) (A : Option Addr) (n c : Nat) (D : Option Addr) (m e : Nat) (q : Rat) (k : Nat) (h : QZ w b A n c D m e q k) (b' : Bool) (A' : Option Addr) (n' c' : Nat) (D' : Option Addr) (m' e' : Nat) (q' : Rat) (k' : Nat) (h' : QZ w b' A' n' c' D' m' e' q' k') (h0 : 0 < k) (hk : k ≤ 40000000) (h0' : 0 < k') (hk' : k' ≤ 40000000) (hx : rcmp q q' = 0) :
  Calls Tryz.prog 70 #[.agg #[.bool b, .slice A n c, .slice D m e], .agg #[.bool b', .slice A' n' c', .slice D' m' e']] w (RetF w (q) (k + 2)) := by
 have HX := Lib.hid hx
 have HS := Lib.hid (h.sz h0)
 have HS' := Lib.hid (h'.sz h0')
 go_enter Tryz.func70, Tryz.ntmps70
 go_wp2_with fail
 (with_reducible refine (f_cmp_v _ b A n c D m e (q) (k) ?_ b' A' n' c' D' m' e' (q') (k') ?_ (0) ?_ ?_ ?_ ?_ ?_).mono ?_); (exact (h.belw ((((Below.refl _ _).alloc (Nat.le_refl _) _).alloc (by simp) _).alloc (by simp <;> omega) _))); (exact (h'.belw ((((Below.refl _ _).alloc (Nat.le_refl _) _).alloc (by simp) _).alloc (by simp <;> omega) _))); (exact HX.out); (first | omega | decide | assumption); (first | omega | decide | assumption); (first | omega | decide | assumption); (first | omega | decide | assumption); rintro e w1 ⟨rfl, hb1⟩
 have q1 := ((((Below.refl _ _).alloc (Nat.le_refl _) _).alloc (by simp) _).alloc (by simp <;> omega) _).trans (hb1.mono (by simp <;> omega))
 replace h := h.belw q1
 replace h' := h'.belw q1
 have x1a : Blk w1 w.heap.size 24 #[.bool b, .slice A n c, .slice D m e] := (((blkAt _ _ _ (by simp)).alloc _).alloc _).below hb1 (by simp <;> omega)
 have x1b := ((blkAt _ _ _ (g := w.heap.size + 1) (by simp)).alloc _).below hb1 (by simp <;> omega)
 have x1c := (blkAt _ _ _ (g := w.heap.size + 1 + 1) (by simp)).below hb1 (by simp)
 have bw1 := (brefl w).trans (q1.mono (brefl w).size)
 have lw1 : w.heap.size + 3 ≤ w1.heap.size := by have := hb1.size; simp at this; omega
 clear q1
 obtain ⟨cx1aa, cx1ab, cx1ac⟩ := x1a.c3
 obtain ⟨lx1aa, lx1ab, lx1ac, lx1ad⟩ := lts0 x1a.lt
 go_wp2_with fail
 (with_reducible refine (f_parts _ b A n c D m e (q) (k) ?_ ?_ ?_).mono ?_); (exact h); (first | omega | decide | assumption); (first | omega | decide | assumption); rintro e w2 ⟨b2, A2, n2, c2, b'2, A'2, n'2, c'2, rfl, h2, h'2, q2⟩
 clear cx1aa cx1ab cx1ac lx1aa lx1ab lx1ac lx1ad
 replace h := h.belw q2
 replace h' := h'.belw q2
 replace x1a := x1a.b q2
 replace x1b := x1b.b q2
 replace x1c := x1c.b q2
 have bw2 := bw1.trans (q2.mono bw1.size)
 have lw2 := q2.size
 clear q2 bw1
 go_wp2_with fail
 (with_reducible refine (f_form _ b2 A2 n2 c2 ((q).num) ((k)) ?_ b'2 A'2 n'2 c'2 (((q).den : Int)) ((k)) ?_ (q) (k) ?_ ?_ ?_ ?_).mono ?_); (exact h2.iz); (exact h'2.iz); (exact den_ne _); (exact (q_eq q).symm); (exact HS.out); (omega); rintro e w3 ⟨b3, A3, n3, c3, A'3, n'3, c'3, rfl, h3, q3⟩
 replace h := h.belw q3
 replace h' := h'.belw q3
 replace h2 := h2.belw q3
 replace h'2 := h'2.belw q3
 replace x1a := x1a.b q3
 replace x1b := x1b.b q3
 replace x1c := x1c.b q3
 have bw3 := bw2.trans (q3.mono bw2.size)
 have lw3 := q3.size
 clear q3 bw2
 obtain ⟨cx1ca, cx1cb, cx1cc⟩ := x1c.c3
 obtain ⟨fx1ca, fx1cb, fx1cc⟩ := x1c.f3
 obtain ⟨lx1ca, lx1cb, lx1cc, lx1cd⟩ := lts2 x1c.lt
 go_wp2_with fail
 refine bodyPost_ret (v := .agg #[.bool b3, .slice A3 n3 c3, .slice A'3 n'3 c'3]) (by simp [results, Tryz.results70, go_sem, *] <;> first | rfl | exact ⟨rfl, rfl⟩) rfl ?_
 exact ⟨b3, A3, n3, c3, A'3, n'3, c'3, rfl, (h3.keep ((((Kp.refl w3).sb (w.heap.size + 1 + 1) 0 x1c.box (by decide) (.bool b3)).sb (w.heap.size + 1 + 1) 1 (x1c.box.set ⟨w.heap.size + 1 + 1, 0, none⟩ (.bool b3)) (by decide) (.slice A3 n3 c3)).sb (w.heap.size + 1 + 1) 2 ((x1c.box.set ⟨w.heap.size + 1 + 1, 0, none⟩ (.bool b3)).set ⟨w.heap.size + 1 + 1, 1, none⟩ (.slice A3 n3 c3)) (by decide) (.slice A'3 n'3 c'3))).mono (by omega), (((bw3.sc (w.heap.size + 1 + 1) 0 (by omega) (.bool b3)).sc (w.heap.size + 1 + 1) 1 (by omega) (.slice A3 n3 c3)).sc (w.heap.size + 1 + 1) 2 (by omega) (.slice A'3 n'3 c'3))⟩
theorem f_min_g (w : World) (b : Bool) (A : Option Addr) (n c : Nat) (D : Option Addr) (m e : Nat) (q : Rat) (k : Nat) (h : QZ w b A n c D m e q k) (b' : Bool) (A' : Option Addr) (n' c' : Nat) (D' : Option Addr) (m' e' : Nat) (q' : Rat) (k' : Nat) (h' : QZ w b' A' n' c' D' m' e' q' k') (h0 : 0 < k) (hk : k ≤ 40000000) (h0' : 0 < k') (hk' : k' ≤ 40000000) (hx : rcmp q q' = 1) :
  Calls Tryz.prog 70 #[.agg #[.bool b, .slice A n c, .slice D m e], .agg #[.bool b', .slice A' n' c', .slice D' m' e']] w (RetF w (q') (k' + 2)) := by
 have HX := Lib.hid hx
 have HS := Lib.hid (h.sz h0)
 have HS' := Lib.hid (h'.sz h0')
 go_enter Tryz.func70, Tryz.ntmps70
 go_wp2_with fail
 (with_reducible refine (f_cmp_v _ b A n c D m e (q) (k) ?_ b' A' n' c' D' m' e' (q') (k') ?_ (1) ?_ ?_ ?_ ?_ ?_).mono ?_); (exact (h.belw ((((Below.refl _ _).alloc (Nat.le_refl _) _).alloc (by simp) _).alloc (by simp <;> omega) _))); (exact (h'.belw ((((Below.refl _ _).alloc (Nat.le_refl _) _).alloc (by simp) _).alloc (by simp <;> omega) _))); (exact HX.out); (first | omega | decide | assumption); (first | omega | decide | assumption); (first | omega | decide | assumption); (first | omega | decide | assumption); rintro e w1 ⟨rfl, hb1⟩
 have q1 := ((((Below.refl _ _).alloc (Nat.le_refl _) _).alloc (by simp) _).alloc (by simp <;> omega) _).trans (hb1.mono (by simp <;> omega))
 replace h := h.belw q1
 replace h' := h'.belw q1
 have x1a : Blk w1 w.heap.size 24 #[.bool b, .slice A n c, .slice D m e] := (((blkAt _ _ _ (by simp)).alloc _).alloc _).below hb1 (by simp <;> omega)
 have x1b := ((blkAt _ _ _ (g := w.heap.size + 1) (by simp)).alloc _).below hb1 (by simp <;> omega)
 have x1c := (blkAt _ _ _ (g := w.heap.size + 1 + 1) (by simp)).below hb1 (by simp)
 have bw1 := (brefl w).trans (q1.mono (brefl w).size)
 have lw1 : w.heap.size + 3 ≤ w1.heap.size := by have := hb1.size; simp at this; omega
 clear q1
 obtain ⟨cx1ba, cx1bb, cx1bc⟩ := x1b.c3
 obtain ⟨lx1ba, lx1bb, lx1bc, lx1bd⟩ := lts1 x1b.lt
 go_wp2_with fail
 (with_reducible refine (f_parts _ b' A' n' c' D' m' e' (q') (k') ?_ ?_ ?_).mono ?_); (exact h'); (first | omega | decide | assumption); (first | omega | decide | assumption); rintro e w2 ⟨b2, A2, n2, c2, b'2, A'2, n'2, c'2, rfl, h2, h'2, q2⟩
 clear cx1ba cx1bb cx1bc lx1ba lx1bb lx1bc lx1bd
 replace h := h.belw q2
 replace h' := h'.belw q2
 replace x1a := x1a.b q2
 replace x1b := x1b.b q2
 replace x1c := x1c.b q2
 have bw2 := bw1.trans (q2.mono bw1.size)
 have lw2 := q2.size
 clear q2 bw1
 go_wp2_with fail
 (with_reducible refine (f_form _ b2 A2 n2 c2 ((q').num) ((k')) ?_ b'2 A'2 n'2 c'2 (((q').den : Int)) ((k')) ?_ (q') (k') ?_ ?_ ?_ ?_).mono ?_); (exact h2.iz); (exact h'2.iz); (exact den_ne _); (exact (q_eq q').symm); (exact HS'.out); (omega); rintro e w3 ⟨b3, A3, n3, c3, A'3, n'3, c'3, rfl, h3, q3⟩
 replace h := h.belw q3
 replace h' := h'.belw q3
 replace h2 := h2.belw q3
 replace h'2 := h'2.belw q3
 replace x1a := x1a.b q3
 replace x1b := x1b.b q3
 replace x1c := x1c.b q3
 have bw3 := bw2.trans (q3.mono bw2.size)
 have lw3 := q3.size
 clear q3 bw2
 obtain ⟨cx1ca, cx1cb, cx1cc⟩ := x1c.c3
 obtain ⟨fx1ca, fx1cb, fx1cc⟩ := x1c.f3
 obtain ⟨lx1ca, lx1cb, lx1cc, lx1cd⟩ := lts2 x1c.lt
 go_wp2_with fail
 refine bodyPost_ret (v := .agg #[.bool b3, .slice A3 n3 c3, .slice A'3 n'3 c'3]) (by simp [results, Tryz.results70, go_sem, *] <;> first | rfl | exact ⟨rfl, rfl⟩) rfl ?_
 exact ⟨b3, A3, n3, c3, A'3, n'3, c'3, rfl, (h3.keep ((((Kp.refl w3).sb (w.heap.size + 1 + 1) 0 x1c.box (by decide) (.bool b3)).sb (w.heap.size + 1 + 1) 1 (x1c.box.set ⟨w.heap.size + 1 + 1, 0, none⟩ (.bool b3)) (by decide) (.slice A3 n3 c3)).sb (w.heap.size + 1 + 1) 2 ((x1c.box.set ⟨w.heap.size + 1 + 1, 0, none⟩ (.bool b3)).set ⟨w.heap.size + 1 + 1, 1, none⟩ (.slice A3 n3 c3)) (by decide) (.slice A'3 n'3 c'3))).mono (by omega), (((bw3.sc (w.heap.size + 1 + 1) 0 (by omega) (.bool b3)).sc (w.heap.size + 1 + 1) 1 (by omega) (.slice A3 n3 c3)).sc (w.heap.size + 1 + 1) 2 (by omega) (.slice A'3 n'3 c'3))⟩
theorem f_max_l (w : World) (b : Bool) (A : Option Addr) (n c : Nat) (D : Option Addr) (m e : Nat) (q : Rat) (k : Nat) (h : QZ w b A n c D m e q k) (b' : Bool) (A' : Option Addr) (n' c' : Nat) (D' : Option Addr) (m' e' : Nat) (q' : Rat) (k' : Nat) (h' : QZ w b' A' n' c' D' m' e' q' k') (h0 : 0 < k) (hk : k ≤ 40000000) (h0' : 0 < k') (hk' : k' ≤ 40000000) (hx : rcmp q q' = -1) :
  Calls Tryz.prog 72 #[.agg #[.bool b, .slice A n c, .slice D m e], .agg #[.bool b', .slice A' n' c', .slice D' m' e']] w (RetF w (q') (k' + 2)) := by
 have HX := Lib.hid hx
 have HS := Lib.hid (h.sz h0)
 have HS' := Lib.hid (h'.sz h0')
 go_enter Tryz.func72, Tryz.ntmps72
 go_wp2_with fail
 (with_reducible refine (f_cmp_v _ b A n c D m e (q) (k) ?_ b' A' n' c' D' m' e' (q') (k') ?_ (-1) ?_ ?_ ?_ ?_ ?_).mono ?_); (exact (h.belw ((((Below.refl _ _).alloc (Nat.le_refl _) _).alloc (by simp) _).alloc (by simp <;> omega) _))); (exact (h'.belw ((((Below.refl _ _).alloc (Nat.le_refl _) _).alloc (by simp) _).alloc (by simp <;> omega) _))); (exact HX.out); (first | omega | decide | assumption); (first | omega | decide | assumption); (first | omega | decide | assumption); (first | omega | decide | assumption); rintro e w1 ⟨rfl, hb1⟩
 have q1 := ((((Below.refl _ _).alloc (Nat.le_refl _) _).alloc (by simp) _).alloc (by simp <;> omega) _).trans (hb1.mono (by simp <;> omega))
 replace h := h.belw q1
 replace h' := h'.belw q1
 have x1a : Blk w1 w.heap.size 24 #[.bool b, .slice A n c, .slice D m e] := (((blkAt _ _ _ (by simp)).alloc _).alloc _).below hb1 (by simp <;> omega)
 have x1b := ((blkAt _ _ _ (g := w.heap.size + 1) (by simp)).alloc _).below hb1 (by simp <;> omega)
 have x1c := (blkAt _ _ _ (g := w.heap.size + 1 + 1) (by simp)).below hb1 (by simp)
 have bw1 := (brefl w).trans (q1.mono (brefl w).size)
 have lw1 : w.heap.size + 3 ≤ w1.heap.size := by have := hb1.size; simp at this; omega
 clear q1
 obtain ⟨cx1ba, cx1bb, cx1bc⟩ := x1b.c3
 obtain ⟨lx1ba, lx1bb, lx1bc, lx1bd⟩ := lts1 x1b.lt
 go_wp2_with fail
 (with_reducible refine (f_parts _ b' A' n' c' D' m' e' (q') (k') ?_ ?_ ?_).mono ?_); (exact h'); (first | omega | decide | assumption); (first | omega | decide | assumption); rintro e w2 ⟨b2, A2, n2, c2, b'2, A'2, n'2, c'2, rfl, h2, h'2, q2⟩
 clear cx1ba cx1bb cx1bc lx1ba lx1bb lx1bc lx1bd
 replace h := h.belw q2
 replace h' := h'.belw q2
 replace x1a := x1a.b q2
 replace x1b := x1b.b q2
 replace x1c := x1c.b q2
 have bw2 := bw1.trans (q2.mono bw1.size)
 have lw2 := q2.size
 clear q2 bw1
 go_wp2_with fail
 (with_reducible refine (f_form _ b2 A2 n2 c2 ((q').num) ((k')) ?_ b'2 A'2 n'2 c'2 (((q').den : Int)) ((k')) ?_ (q') (k') ?_ ?_ ?_ ?_).mono ?_); (exact h2.iz); (exact h'2.iz); (exact den_ne _); (exact (q_eq q').symm); (exact HS'.out); (omega); rintro e w3 ⟨b3, A3, n3, c3, A'3, n'3, c'3, rfl, h3, q3⟩
 replace h := h.belw q3
 replace h' := h'.belw q3
 replace h2 := h2.belw q3
 replace h'2 := h'2.belw q3
 replace x1a := x1a.b q3
 replace x1b := x1b.b q3
 replace x1c := x1c.b q3
 have bw3 := bw2.trans (q3.mono bw2.size)
 have lw3 := q3.size
 clear q3 bw2
 obtain ⟨cx1ca, cx1cb, cx1cc⟩ := x1c.c3
 obtain ⟨fx1ca, fx1cb, fx1cc⟩ := x1c.f3
 obtain ⟨lx1ca, lx1cb, lx1cc, lx1cd⟩ := lts2 x1c.lt
 go_wp2_with fail
 refine bodyPost_ret (v := .agg #[.bool b3, .slice A3 n3 c3, .slice A'3 n'3 c'3]) (by simp [results, Tryz.results72, go_sem, *] <;> first | rfl | exact ⟨rfl, rfl⟩) rfl ?_
 exact ⟨b3, A3, n3, c3, A'3, n'3, c'3, rfl, (h3.keep ((((Kp.refl w3).sb (w.heap.size + 1 + 1) 0 x1c.box (by decide) (.bool b3)).sb (w.heap.size + 1 + 1) 1 (x1c.box.set ⟨w.heap.size + 1 + 1, 0, none⟩ (.bool b3)) (by decide) (.slice A3 n3 c3)).sb (w.heap.size + 1 + 1) 2 ((x1c.box.set ⟨w.heap.size + 1 + 1, 0, none⟩ (.bool b3)).set ⟨w.heap.size + 1 + 1, 1, none⟩ (.slice A3 n3 c3)) (by decide) (.slice A'3 n'3 c'3))).mono (by omega), (((bw3.sc (w.heap.size + 1 + 1) 0 (by omega) (.bool b3)).sc (w.heap.size + 1 + 1) 1 (by omega) (.slice A3 n3 c3)).sc (w.heap.size + 1 + 1) 2 (by omega) (.slice A'3 n'3 c'3))⟩
theorem f_max_e (w : World) (b : Bool) (A : Option Addr) (n c : Nat) (D : Option Addr) (m e : Nat) (q : Rat) (k : Nat) (h : QZ w b A n c D m e q k) (b' : Bool) (A' : Option Addr) (n' c' : Nat) (D' : Option Addr) (m' e' : Nat) (q' : Rat) (k' : Nat) (h' : QZ w b' A' n' c' D' m' e' q' k') (h0 : 0 < k) (hk : k ≤ 40000000) (h0' : 0 < k') (hk' : k' ≤ 40000000) (hx : rcmp q q' = 0) :
  Calls Tryz.prog 72 #[.agg #[.bool b, .slice A n c, .slice D m e], .agg #[.bool b', .slice A' n' c', .slice D' m' e']] w (RetF w (q) (k + 2)) := by
 have HX := Lib.hid hx
 have HS := Lib.hid (h.sz h0)
 have HS' := Lib.hid (h'.sz h0')
 go_enter Tryz.func72, Tryz.ntmps72
 go_wp2_with fail
 (with_reducible refine (f_cmp_v _ b A n c D m e (q) (k) ?_ b' A' n' c' D' m' e' (q') (k') ?_ (0) ?_ ?_ ?_ ?_ ?_).mono ?_); (exact (h.belw ((((Below.refl _ _).alloc (Nat.le_refl _) _).alloc (by simp) _).alloc (by simp <;> omega) _))); (exact (h'.belw ((((Below.refl _ _).alloc (Nat.le_refl _) _).alloc (by simp) _).alloc (by simp <;> omega) _))); (exact HX.out); (first | omega | decide | assumption); (first | omega | decide | assumption); (first | omega | decide | assumption); (first | omega | decide | assumption); rintro e w1 ⟨rfl, hb1⟩
 have q1 := ((((Below.refl _ _).alloc (Nat.le_refl _) _).alloc (by simp) _).alloc (by simp <;> omega) _).trans (hb1.mono (by simp <;> omega))
 replace h := h.belw q1
 replace h' := h'.belw q1
 have x1a : Blk w1 w.heap.size 24 #[.bool b, .slice A n c, .slice D m e] := (((blkAt _ _ _ (by simp)).alloc _).alloc _).below hb1 (by simp <;> omega)
 have x1b := ((blkAt _ _ _ (g := w.heap.size + 1) (by simp)).alloc _).below hb1 (by simp <;> omega)
 have x1c := (blkAt _ _ _ (g := w.heap.size + 1 + 1) (by simp)).below hb1 (by simp)
 have bw1 := (brefl w).trans (q1.mono (brefl w).size)
 have lw1 : w.heap.size + 3 ≤ w1.heap.size := by have := hb1.size; simp at this; omega
 clear q1
 obtain ⟨cx1aa, cx1ab, cx1ac⟩ := x1a.c3
 obtain ⟨lx1aa, lx1ab, lx1ac, lx1ad⟩ := lts0 x1a.lt
 go_wp2_with fail
 (with_reducible refine (f_parts _ b A n c D m e (q) (k) ?_ ?_ ?_).mono ?_); (exact h); (first | omega | decide | assumption); (first | omega | decide | assumption); rintro e w2 ⟨b2, A2, n2, c2, b'2, A'2, n'2, c'2, rfl, h2, h'2, q2⟩
 clear cx1aa cx1ab cx1ac lx1aa lx1ab lx1ac lx1ad
 replace h := h.belw q2
 replace h' := h'.belw q2
 replace x1a := x1a.b q2
 replace x1b := x1b.b q2
 replace x1c := x1c.b q2
 have bw2 := bw1.trans (q2.mono bw1.size)
 have lw2 := q2.size
 clear q2 bw1
 go_wp2_with fail
 (with_reducible refine (f_form _ b2 A2 n2 c2 ((q).num) ((k)) ?_ b'2 A'2 n'2 c'2 (((q).den : Int)) ((k)) ?_ (q) (k) ?_ ?_ ?_ ?_).mono ?_); (exact h2.iz); (exact h'2.iz); (exact den_ne _); (exact (q_eq q).symm); (exact HS.out); (omega); rintro e w3 ⟨b3, A3, n3, c3, A'3, n'3, c'3, rfl, h3, q3⟩
 replace h := h.belw q3
 replace h' := h'.belw q3
 replace h2 := h2.belw q3
 replace h'2 := h'2.belw q3
 replace x1a := x1a.b q3
 replace x1b := x1b.b q3
 replace x1c := x1c.b q3
 have bw3 := bw2.trans (q3.mono bw2.size)
 have lw3 := q3.size
 clear q3 bw2
 obtain ⟨cx1ca, cx1cb, cx1cc⟩ := x1c.c3
 obtain ⟨fx1ca, fx1cb, fx1cc⟩ := x1c.f3
 obtain ⟨lx1ca, lx1cb, lx1cc, lx1cd⟩ := lts2 x1c.lt
 go_wp2_with fail
 refine bodyPost_ret (v := .agg #[.bool b3, .slice A3 n3 c3, .slice A'3 n'3 c'3]) (by simp [results, Tryz.results72, go_sem, *] <;> first | rfl | exact ⟨rfl, rfl⟩) rfl ?_
 exact ⟨b3, A3, n3, c3, A'3, n'3, c'3, rfl, (h3.keep ((((Kp.refl w3).sb (w.heap.size + 1 + 1) 0 x1c.box (by decide) (.bool b3)).sb (w.heap.size + 1 + 1) 1 (x1c.box.set ⟨w.heap.size + 1 + 1, 0, none⟩ (.bool b3)) (by decide) (.slice A3 n3 c3)).sb (w.heap.size + 1 + 1) 2 ((x1c.box.set ⟨w.heap.size + 1 + 1, 0, none⟩ (.bool b3)).set ⟨w.heap.size + 1 + 1, 1, none⟩ (.slice A3 n3 c3)) (by decide) (.slice A'3 n'3 c'3))).mono (by omega), (((bw3.sc (w.heap.size + 1 + 1) 0 (by omega) (.bool b3)).sc (w.heap.size + 1 + 1) 1 (by omega) (.slice A3 n3 c3)).sc (w.heap.size + 1 + 1) 2 (by omega) (.slice A'3 n'3 c'3))⟩
theorem f_max_g (w : World) (b : Bool) (A : Option Addr) (n c : Nat) (D : Option Addr) (m e : Nat) (q : Rat) (k : Nat) (h : QZ w b A n c D m e q k) (b' : Bool) (A' : Option Addr) (n' c' : Nat) (D' : Option Addr) (m' e' : Nat) (q' : Rat) (k' : Nat) (h' : QZ w b' A' n' c' D' m' e' q' k') (h0 : 0 < k) (hk : k ≤ 40000000) (h0' : 0 < k') (hk' : k' ≤ 40000000) (hx : rcmp q q' = 1) :
  Calls Tryz.prog 72 #[.agg #[.bool b, .slice A n c, .slice D m e], .agg #[.bool b', .slice A' n' c', .slice D' m' e']] w (RetF w (q) (k + 2)) := by
 have HX := Lib.hid hx
 have HS := Lib.hid (h.sz h0)
 have HS' := Lib.hid (h'.sz h0')
 go_enter Tryz.func72, Tryz.ntmps72
 go_wp2_with fail
 (with_reducible refine (f_cmp_v _ b A n c D m e (q) (k) ?_ b' A' n' c' D' m' e' (q') (k') ?_ (1) ?_ ?_ ?_ ?_ ?_).mono ?_); (exact (h.belw ((((Below.refl _ _).alloc (Nat.le_refl _) _).alloc (by simp) _).alloc (by simp <;> omega) _))); (exact (h'.belw ((((Below.refl _ _).alloc (Nat.le_refl _) _).alloc (by simp) _).alloc (by simp <;> omega) _))); (exact HX.out); (first | omega | decide | assumption); (first | omega | decide | assumption); (first | omega | decide | assumption); (first | omega | decide | assumption); rintro e w1 ⟨rfl, hb1⟩
 have q1 := ((((Below.refl _ _).alloc (Nat.le_refl _) _).alloc (by simp) _).alloc (by simp <;> omega) _).trans (hb1.mono (by simp <;> omega))
 replace h := h.belw q1
 replace h' := h'.belw q1
 have x1a : Blk w1 w.heap.size 24 #[.bool b, .slice A n c, .slice D m e] := (((blkAt _ _ _ (by simp)).alloc _).alloc _).below hb1 (by simp <;> omega)
 have x1b := ((blkAt _ _ _ (g := w.heap.size + 1) (by simp)).alloc _).below hb1 (by simp <;> omega)
 have x1c := (blkAt _ _ _ (g := w.heap.size + 1 + 1) (by simp)).below hb1 (by simp)
 have bw1 := (brefl w).trans (q1.mono (brefl w).size)
 have lw1 : w.heap.size + 3 ≤ w1.heap.size := by have := hb1.size; simp at this; omega
 clear q1
 obtain ⟨cx1aa, cx1ab, cx1ac⟩ := x1a.c3
 obtain ⟨lx1aa, lx1ab, lx1ac, lx1ad⟩ := lts0 x1a.lt
 go_wp2_with fail
 (with_reducible refine (f_parts _ b A n c D m e (q) (k) ?_ ?_ ?_).mono ?_); (exact h); (first | omega | decide | assumption); (first | omega | decide | assumption); rintro e w2 ⟨b2, A2, n2, c2, b'2, A'2, n'2, c'2, rfl, h2, h'2, q2⟩
 clear cx1aa cx1ab cx1ac lx1aa lx1ab lx1ac lx1ad
 replace h := h.belw q2
 replace h' := h'.belw q2
 replace x1a := x1a.b q2
 replace x1b := x1b.b q2
 replace x1c := x1c.b q2
 have bw2 := bw1.trans (q2.mono bw1.size)
 have lw2 := q2.size
 clear q2 bw1
 go_wp2_with fail
 (with_reducible refine (f_form _ b2 A2 n2 c2 ((q).num) ((k)) ?_ b'2 A'2 n'2 c'2 (((q).den : Int)) ((k)) ?_ (q) (k) ?_ ?_ ?_ ?_).mono ?_); (exact h2.iz); (exact h'2.iz); (exact den_ne _); (exact (q_eq q).symm); (exact HS.out); (omega); rintro e w3 ⟨b3, A3, n3, c3, A'3, n'3, c'3, rfl, h3, q3⟩
 replace h := h.belw q3
 replace h' := h'.belw q3
 replace h2 := h2.belw q3
 replace h'2 := h'2.belw q3
 replace x1a := x1a.b q3
 replace x1b := x1b.b q3
 replace x1c := x1c.b q3
 have bw3 := bw2.trans (q3.mono bw2.size)
 have lw3 := q3.size
 clear q3 bw2
 obtain ⟨cx1ca, cx1cb, cx1cc⟩ := x1c.c3
 obtain ⟨fx1ca, fx1cb, fx1cc⟩ := x1c.f3
 obtain ⟨lx1ca, lx1cb, lx1cc, lx1cd⟩ := lts2 x1c.lt
 go_wp2_with fail
 refine bodyPost_ret (v := .agg #[.bool b3, .slice A3 n3 c3, .slice A'3 n'3 c'3]) (by simp [results, Tryz.results72, go_sem, *] <;> first | rfl | exact ⟨rfl, rfl⟩) rfl ?_
 exact ⟨b3, A3, n3, c3, A'3, n'3, c'3, rfl, (h3.keep ((((Kp.refl w3).sb (w.heap.size + 1 + 1) 0 x1c.box (by decide) (.bool b3)).sb (w.heap.size + 1 + 1) 1 (x1c.box.set ⟨w.heap.size + 1 + 1, 0, none⟩ (.bool b3)) (by decide) (.slice A3 n3 c3)).sb (w.heap.size + 1 + 1) 2 ((x1c.box.set ⟨w.heap.size + 1 + 1, 0, none⟩ (.bool b3)).set ⟨w.heap.size + 1 + 1, 1, none⟩ (.slice A3 n3 c3)) (by decide) (.slice A'3 n'3 c'3))).mono (by omega), (((bw3.sc (w.heap.size + 1 + 1) 0 (by omega) (.bool b3)).sc (w.heap.size + 1 + 1) 1 (by omega) (.slice A3 n3 c3)).sc (w.heap.size + 1 + 1) 2 (by omega) (.slice A'3 n'3 c'3))⟩
theorem g_from_0 (w : World) (b : Bool) (A : Option Addr) (n c : Nat) (z : Int) (k : Nat) (h : IZ w b A n c z k) (b' : Bool) (A' : Option Addr) (n' c' : Nat) (z' : Int) (k' : Nat) (h' : IZ w b' A' n' c' z' k') (hd : z' = 0) (hk : k + k' ≤ 300000000) :
  Calls Tryz.prog 29 #[.agg #[.bool b, .slice A n c], .agg #[.bool b', .slice A' n' c']] w (RetFe w (.int .i64 8) 0 1) := by
 have HS := Lib.hid (show z'.sign = 0 by rw [hd]; rfl)
 clear hd
 go_enter Tryz.func29, Tryz.ntmps29
 go_wp2_with fail
 (with_reducible refine (r01_sign_e _ b' A' n' c' (z') (k') ?_ 0 ?_ ?_).mono ?_); (exact (h'.belw ((((Below.refl _ _).alloc (Nat.le_refl _) _).alloc (by simp) _).alloc (by simp <;> omega) _))); (exact HS.out); (omega); rintro e w1 ⟨rfl, hb1⟩
 have q1 := ((((Below.refl _ _).alloc (Nat.le_refl _) _).alloc (by simp) _).alloc (by simp <;> omega) _).trans (hb1.mono (by simp <;> omega))
 replace h := h.belw q1
 replace h' := h'.belw q1
 have x1a : Blk w1 w.heap.size 46 #[.bool b, .slice A n c] := (((blkAt _ _ _ (by simp)).alloc _).alloc _).below hb1 (by simp <;> omega)
 have x1b := ((blkAt _ _ _ (g := w.heap.size + 1) (by simp)).alloc _).below hb1 (by simp <;> omega)
 have x1c := (blkAt _ _ _ (g := w.heap.size + 1 + 1) (by simp)).below hb1 (by simp)
 have bw1 := (brefl w).trans (q1.mono (brefl w).size)
 have lw1 : w.heap.size + 3 ≤ w1.heap.size := by have := hb1.size; simp at this; omega
 clear q1
 obtain ⟨cx1ca, cx1cb, cx1cc⟩ := x1c.c3
 obtain ⟨fx1ca, fx1cb, fx1cc⟩ := x1c.f3
 obtain ⟨lx1ca, lx1cb, lx1cc, lx1cd⟩ := lts2 x1c.lt
 go_wp2_with fail
 refine bodyPost_ret (v := .tuple #[.agg #[.bool false, .slice none 0 0, .slice none 0 0], .int .i64 8]) (by simp [results, Tryz.results29, go_sem, *] <;> first | rfl | exact ⟨rfl, rfl⟩) rfl ?_
 exact ⟨_, _, _, _, _, _, _, rfl, QV.zero _ _, (((bw1.sc (w.heap.size + 1 + 1) 0 (by omega) (.bool false)).sc (w.heap.size + 1 + 1) 1 (by omega) (.slice none 0 0)).sc (w.heap.size + 1 + 1) 2 (by omega) (.slice none 0 0))⟩
theorem g_div_0 (w : World) (b : Bool) (A : Option Addr) (n c : Nat) (D : Option Addr) (m e : Nat) (q : Rat) (k : Nat) (h : QZ w b A n c D m e q k) (b' : Bool) (A' : Option Addr) (n' c' : Nat) (D' : Option Addr) (m' e' : Nat) (q' : Rat) (k' : Nat) (h' : QZ w b' A' n' c' D' m' e' q' k') (h0 : 0 < k) (hk : k ≤ 40000000) (h0' : 0 < k') (hk' : k' ≤ 40000000) (hz : q' = 0) :
    Calls Tryz.prog 61 #[.agg #[.bool b, .slice A n c, .slice D m e], .agg #[.bool b', .slice A' n' c', .slice D' m' e']] w (RetFe w (.int .i64 8) 0 1) := by
  have HD := Lib.hid (show (q.den : Int) * q'.num = 0 by rw [hz, show (0 : Rat).num = 0 from rfl, Int.mul_zero])
  clear hz
  go_enter Tryz.func61, Tryz.ntmps61
  go_wp2_with fail
  (with_reducible refine (g_parts _ b A n c D m e (q) (k) ?_ ?_ ?_).mono ?_); (exact (h.belw ((((Below.refl _ _).alloc (Nat.le_refl _) _).alloc (by simp) _).alloc (by simp <;> omega) _))); (first | omega | decide | assumption); (first | omega | decide | assumption); rintro e w1 ⟨b1, A1, n1, c1, b'1, A'1, n'1, c'1, rfl, h1, h'1, hb1⟩
  have q1 := ((((Below.refl _ _).alloc (Nat.le_refl _) _).alloc (by simp) _).alloc (by simp <;> omega) _).trans (hb1.mono (by simp <;> omega))
  replace h := h.belw q1
  replace h' := h'.belw q1
  have x1a : Blk w1 w.heap.size 24 #[.bool b, .slice A n c, .slice D m e] := (((blkAt _ _ _ (by simp)).alloc _).alloc _).below hb1 (by simp <;> omega)
  have x1b := ((blkAt _ _ _ (g := w.heap.size + 1) (by simp)).alloc _).below hb1 (by simp <;> omega)
  have x1c := (blkAt _ _ _ (g := w.heap.size + 1 + 1) (by simp)).below hb1 (by simp)
  have bw1 := (brefl w).trans (q1.mono (brefl w).size)
  have lw1 : w.heap.size + 3 ≤ w1.heap.size := by have := hb1.size; simp at this; omega
  clear q1
  obtain ⟨cx1ba, cx1bb, cx1bc⟩ := x1b.c3
  obtain ⟨lx1ba, lx1bb, lx1bc, lx1bd⟩ := lts1 x1b.lt
  go_wp2_with fail
  (with_reducible refine (g_parts _ b' A' n' c' D' m' e' (q') (k') ?_ ?_ ?_).mono ?_); (exact (h'.belw (((Below.refl _ _).alloc (Nat.le_refl _) _).alloc (by simp) _))); (first | omega | decide | assumption); (first | omega | decide | assumption); rintro e w2 ⟨b2, A2, n2, c2, b'2, A'2, n'2, c'2, rfl, h2, h'2, hb2⟩
  clear cx1ba cx1bb cx1bc lx1ba lx1bb lx1bc lx1bd
  have q2 := (((Below.refl _ _).alloc (Nat.le_refl _) _).alloc (by simp) _).trans (hb2.mono (by simp <;> omega))
  replace h := h.belw q2
  replace h' := h'.belw q2
  replace h1 := h1.belw q2
  replace h'1 := h'1.belw q2
  replace x1a := x1a.b q2
  replace x1b := x1b.b q2
  replace x1c := x1c.b q2
  have x2a : Blk w2 w1.heap.size 46 #[.bool b1, .slice A1 n1 c1] := ((blkAt _ _ _ (by simp)).alloc _).below hb2 (by simp <;> omega)
  have x2b := (blkAt _ _ _ (g := w1.heap.size + 1) (by simp)).below hb2 (by simp)
  have bw2 := bw1.trans (q2.mono bw1.size)
  have lw2 : w1.heap.size + 2 ≤ w2.heap.size := by have := hb2.size; simp at this; omega
  clear q2 bw1
  go_wp2_with fail
  have p3 := (((Kp.refl w2).alloc (.cells #[.bool b2, .slice A2 n2 c2] 46)).alloc (.cells #[.bool b'2, .slice A'2 n'2 c'2] 46))
  have bw3 := ((bw2.alloc (by first | omega | (simp <;> omega)) (.cells #[.bool b2, .slice A2 n2 c2] 46)).alloc (by first | omega | (simp <;> omega)) (.cells #[.bool b'2, .slice A'2 n'2 c'2] 46))
  have x3a : Blk ((w2.alloc (.cells #[.bool b2, .slice A2 n2 c2] 46)).alloc (.cells #[.bool b'2, .slice A'2 n'2 c'2] 46)) w2.heap.size 46 #[.bool b2, .slice A2 n2 c2] := ((blkAt _ _ _ (by simp)).alloc (.cells #[.bool b'2, .slice A'2 n'2 c'2] 46))
  have x3b : Blk ((w2.alloc (.cells #[.bool b2, .slice A2 n2 c2] 46)).alloc (.cells #[.bool b'2, .slice A'2 n'2 c'2] 46)) (w2.heap.size + 1) 46 #[.bool b'2, .slice A'2 n'2 c'2] := (blkAt _ _ _ (by simp))
  replace x1a := ((x1a.alloc (.cells #[.bool b2, .slice A2 n2 c2] 46)).alloc (.cells #[.bool b'2, .slice A'2 n'2 c'2] 46))
  replace x1b := ((x1b.alloc (.cells #[.bool b2, .slice A2 n2 c2] 46)).alloc (.cells #[.bool b'2, .slice A'2 n'2 c'2] 46))
  replace x1c := ((x1c.alloc (.cells #[.bool b2, .slice A2 n2 c2] 46)).alloc (.cells #[.bool b'2, .slice A'2 n'2 c'2] 46))
  replace x2a := ((x2a.alloc (.cells #[.bool b2, .slice A2 n2 c2] 46)).alloc (.cells #[.bool b'2, .slice A'2 n'2 c'2] 46))
  replace x2b := ((x2b.alloc (.cells #[.bool b2, .slice A2 n2 c2] 46)).alloc (.cells #[.bool b'2, .slice A'2 n'2 c'2] 46))
  have lw3 : w2.heap.size + 2 ≤ ((w2.alloc (.cells #[.bool b2, .slice A2 n2 c2] 46)).alloc (.cells #[.bool b'2, .slice A'2 n'2 c'2] 46)).heap.size := by simp
  generalize hE3 : ((w2.alloc (.cells #[.bool b2, .slice A2 n2 c2] 46)).alloc (.cells #[.bool b'2, .slice A'2 n'2 c'2] 46)) = w3 at p3 bw3 lw3 x3a x3b x1a x1b x1c x2a x2b ⊢
  clear hE3
  replace h := h.keep p3
  replace h' := h'.keep p3
  replace h1 := h1.keep p3
  replace h'1 := h'1.keep p3
  replace h2 := h2.keep p3
  replace h'2 := h'2.keep p3
  clear bw2
  obtain ⟨lx1aa, lx1ab, lx1ac, lx1ad⟩ := lts0 x1a.lt
  obtain ⟨lx1ba, lx1bb, lx1bc, lx1bd⟩ := lts1 x1b.lt
  have cx1ca : w3.cell? ⟨w.heap.size + 1 + 1, 0, none⟩ = some (.bool false) := x1c.cell 0
  have fx1ca : w3.frozen? ⟨w.heap.size + 1 + 1, 0, none⟩ = false := x1c.frozen 0
  have cx1cb : w3.cell? ⟨w.heap.size + 1 + 1, 1, none⟩ = some (.slice none 0 0) := x1c.cell 1
  have fx1cb : w3.frozen? ⟨w.heap.size + 1 + 1, 1, none⟩ = false := x1c.frozen 1
  have cx1cc : w3.cell? ⟨w.heap.size + 1 + 1, 2, none⟩ = some (.slice none 0 0) := x1c.cell 2
  have fx1cc : w3.frozen? ⟨w.heap.size + 1 + 1, 2, none⟩ = false := x1c.frozen 2
  obtain ⟨lx1ca, lx1cb, lx1cc, lx1cd⟩ := lts2 x1c.lt
  obtain ⟨cx2aa, cx2ab⟩ := x2a.c2
  obtain ⟨lx2aa, lx2ab, lx2ac, lx2ad⟩ := lts0 x2a.lt
  obtain ⟨cx2ba, cx2bb⟩ := x2b.c2
  obtain ⟨lx2ba, lx2bb, lx2bc, lx2bd⟩ := lts1 x2b.lt
  obtain ⟨cx3aa, cx3ab⟩ := x3a.c2
  obtain ⟨lx3aa, lx3ab, lx3ac, lx3ad⟩ := lts0 x3a.lt
  obtain ⟨cx3ba, cx3bb⟩ := x3b.c2
  obtain ⟨lx3ba, lx3bb, lx3bc, lx3bd⟩ := lts1 x3b.lt
  have nfx1_0_0 : ¬ w.heap.size = w.heap.size + 1 + 1 := by omega
  have nex1_0_0 : ¬ w.heap.size = w.heap.size + 2 := by omega
  have nfx1_1_0 : ¬ w.heap.size + 1 = w.heap.size + 1 + 1 := by omega
  have nex1_1_0 : ¬ w.heap.size = w.heap.size + 1 := by omega
  have nfx2_0_0 : ¬ w1.heap.size = w.heap.size + 1 + 1 := by omega
  have nex2_0_0 : ¬ w1.heap.size = w.heap.size + 2 := by omega
  have nfx2_1_0 : ¬ w1.heap.size + 1 = w.heap.size + 1 + 1 := by omega
  have nex2_1_0 : ¬ w1.heap.size = w.heap.size + 1 := by omega
  have nfx3_0_0 : ¬ w2.heap.size = w.heap.size + 1 + 1 := by omega
  have nex3_0_0 : ¬ w2.heap.size = w.heap.size + 2 := by omega
  have nfx3_1_0 : ¬ w2.heap.size + 1 = w.heap.size + 1 + 1 := by omega
  have nex3_1_0 : ¬ w2.heap.size = w.heap.size + 1 := by omega
  go_region_held3 (fun w' => SeesX w3.heap.size (w.heap.size + 1 + 1) w3 w') (first | with_reducible exact SeesX.of (Nat.le_refl _) (by assumption) | with_reducible exact SeesX.of (Nat.le_refl _) (brefl _).drew | with_reducible exact (SeesX.set (SeesX.set (SeesX.set (SeesX.of (Nat.le_refl _) (by assumption))))) | with_reducible exact (SeesX.set (SeesX.set (SeesX.of (Nat.le_refl _) (by assumption)))) | with_reducible exact (SeesX.set (SeesX.of (Nat.le_refl _) (by assumption))) | exact SeesX.of (Nat.le_refl _) (below_drewN (brefl _) 1) | exact SeesX.of (Nat.le_refl _) (below_drewN (by assumption) _))
    (first
      | (go_at_call 112; (with_reducible refine (r01_mul _ b1 A1 n1 c1 ((q).num) ((k)) ?_ b'2 A'2 n'2 c'2 (((q').den : Int)) ((k')) ?_ ?_).mono ?_); (exact h1.iz); (exact h'2.iz); (first | omega | decide | assumption); rintro e w4 ⟨b4, A4, n4, c4, rfl, h4, hb4⟩; replace hb4 := bnext (below_drewN (brefl _) 1) hb4; have q4 : Below w3.heap.size w3 w4 := bnext (brefl w3) hb4; replace h := h.belw hb4; replace h' := h'.belw hb4; replace h1 := h1.belw hb4; replace h'1 := h'1.belw hb4; replace h2 := h2.belw hb4; replace h'2 := h'2.belw hb4)
      | (go_at_call 112; (with_reducible refine (r01_mul _ b'1 A'1 n'1 c'1 (((q).den : Int)) ((k)) ?_ b2 A2 n2 c2 ((q').num) ((k')) ?_ ?_).mono ?_); (exact h'1.iz); (exact h2.iz); (first | omega | decide | assumption); rintro e w5 ⟨b5, A5, n5, c5, rfl, h5, hb5⟩; have q5 : Below w3.heap.size w3 w5 := bnext q4 hb5; replace h := h.belw hb5; replace h' := h'.belw hb5; replace h1 := h1.belw hb5; replace h'1 := h'1.belw hb5; replace h2 := h2.belw hb5; replace h'2 := h'2.belw hb5; replace h4 := h4.belw hb5)
      | (go_at_call 29; (with_reducible refine (g_from_0 _ b4 A4 n4 c4 (((q).num) * (((q').den : Int))) (((k)) + ((k'))) ?_ b5 A5 n5 c5 ((((q).den : Int)) * ((q').num)) (((k)) + ((k'))) ?_  ?_ ?_).mono ?_); (exact h4.iz); (exact h5.iz); (exact HD.out); (omega); rintro e w6 ⟨b6, A6, n6, c6, A'6, n'6, c'6, rfl, h6, hb6⟩; have q6 : Below w3.heap.size w3 w6 := bnext q5 hb6; replace h := h.belw hb6; replace h' := h'.belw hb6; replace h1 := h1.belw hb6; replace h'1 := h'1.belw hb6; replace h2 := h2.belw hb6; replace h'2 := h'2.belw hb6; replace h4 := h4.belw hb6; replace h5 := h5.belw hb6; have x1c := x1c.b q6; obtain ⟨cx1ca, cx1cb, cx1cc⟩ := x1c.c3; obtain ⟨fx1ca, fx1cb, fx1cc⟩ := x1c.f3))
  have bw6 := bw3.trans (q6.mono bw3.size)
  clear lx1aa lx1ab lx1ac lx1ad lx1ba lx1bb lx1bc lx1bd cx1ca fx1ca cx1cb fx1cb cx1cc fx1cc lx1ca lx1cb lx1cc lx1cd cx2aa cx2ab lx2aa lx2ab lx2ac lx2ad cx2ba cx2bb lx2ba lx2bb lx2bc lx2bd cx3aa cx3ab lx3aa lx3ab lx3ac lx3ad cx3ba cx3bb lx3ba lx3bb lx3bc lx3bd
  replace x1a := x1a.b q6
  replace x1b := x1b.b q6
  replace x2a := x2a.b q6
  replace x2b := x2b.b q6
  replace x3a := x3a.b q6
  replace x3b := x3b.b q6
  have lw6 := q6.size
  obtain ⟨cx1ca, cx1cb, cx1cc⟩ := x1c.c3
  obtain ⟨fx1ca, fx1cb, fx1cc⟩ := x1c.f3
  go_wp2_with fail
  refine bodyPost_ret (v := .tuple #[.agg #[.bool b6, .slice A6 n6 c6, .slice A'6 n'6 c'6], .int .i64 8]) (by simp [results, Tryz.results61, go_sem, *] <;> first | rfl | exact ⟨rfl, rfl⟩) rfl ?_
  exact ⟨b6, A6, n6, c6, A'6, n'6, c'6, rfl, h6.keep ((((Kp.refl w6).sb (w.heap.size + 1 + 1) 0 x1c.box (by decide) (.bool b6)).sb (w.heap.size + 1 + 1) 1 (x1c.box.set ⟨w.heap.size + 1 + 1, 0, none⟩ (.bool b6)) (by decide) (.slice A6 n6 c6)).sb (w.heap.size + 1 + 1) 2 ((x1c.box.set ⟨w.heap.size + 1 + 1, 0, none⟩ (.bool b6)).set ⟨w.heap.size + 1 + 1, 1, none⟩ (.slice A6 n6 c6)) (by decide) (.slice A'6 n'6 c'6)), (((bw6.sc (w.heap.size + 1 + 1) 0 (by omega) (.bool b6)).sc (w.heap.size + 1 + 1) 1 (by omega) (.slice A6 n6 c6)).sc (w.heap.size + 1 + 1) 2 (by omega) (.slice A'6 n'6 c'6))⟩
theorem g_abs_n (w : World) (b : Bool) (A : Option Addr) (n c : Nat) (D : Option Addr) (m e : Nat) (q : Rat) (k : Nat) (h : QZ w b A n c D m e q k) (h0 : 0 < k) (hk : k ≤ 40000000) (hx : q.num.sign = -1) :
  Calls Tryz.prog 64 #[.agg #[.bool b, .slice A n c, .slice D m e]] w (RetF w (-q) (k + 2)) := by
 have HX := Lib.hid hx
 have HS := Lib.hid (h.sz h0)
 go_enter Tryz.func64, Tryz.ntmps64
 go_wp2_with fail
 (with_reducible refine (g_sign_v _ b A n c D m e (q) (k) ?_ (-1) ?_ ?_ ?_).mono ?_); (exact (h.belw (((Below.refl _ _).alloc (Nat.le_refl _) _).alloc (by simp) _))); (exact HX.out); (first | omega | decide | assumption); (first | omega | decide | assumption); rintro e w1 ⟨rfl, hb1⟩
 have q1 := (((Below.refl _ _).alloc (Nat.le_refl _) _).alloc (by simp) _).trans (hb1.mono (by simp <;> omega))
 replace h := h.belw q1
 have x1a : Blk w1 w.heap.size 24 #[.bool b, .slice A n c, .slice D m e] := ((blkAt _ _ _ (by simp)).alloc _).below hb1 (by simp <;> omega)
 have x1b := (blkAt _ _ _ (g := w.heap.size + 1) (by simp)).below hb1 (by simp)
 have bw1 := (brefl w).trans (q1.mono (brefl w).size)
 have lw1 : w.heap.size + 2 ≤ w1.heap.size := by have := hb1.size; simp at this; omega
 clear q1
 obtain ⟨cx1aa, cx1ab, cx1ac⟩ := x1a.c3
 obtain ⟨lx1aa, lx1ab, lx1ac, lx1ad⟩ := lts0 x1a.lt
 go_wp2_with fail
 (with_reducible refine (g_neg _ b A n c D m e (q) (k) ?_ ?_ ?_).mono ?_); (exact h); (first | omega | decide | assumption); (first | omega | decide | assumption); rintro e w2 ⟨b2, A2, n2, c2, A'2, n'2, c'2, rfl, h2, q2⟩
 clear cx1aa cx1ab cx1ac lx1aa lx1ab lx1ac lx1ad
 replace h := h.belw q2
 replace x1a := x1a.b q2
 replace x1b := x1b.b q2
 have bw2 := bw1.trans (q2.mono bw1.size)
 have lw2 := q2.size
 clear q2 bw1
 obtain ⟨cx1ba, cx1bb, cx1bc⟩ := x1b.c3
 obtain ⟨fx1ba, fx1bb, fx1bc⟩ := x1b.f3
 obtain ⟨lx1ba, lx1bb, lx1bc, lx1bd⟩ := lts1 x1b.lt
 go_wp2_with fail
 refine bodyPost_ret (v := .agg #[.bool b2, .slice A2 n2 c2, .slice A'2 n'2 c'2]) (by simp [results, Tryz.results64, go_sem, *] <;> first | rfl | exact ⟨rfl, rfl⟩) rfl ?_
 exact ⟨b2, A2, n2, c2, A'2, n'2, c'2, rfl, (h2.keep ((((Kp.refl w2).sb (w.heap.size + 1) 0 x1b.box (by decide) (.bool b2)).sb (w.heap.size + 1) 1 (x1b.box.set ⟨w.heap.size + 1, 0, none⟩ (.bool b2)) (by decide) (.slice A2 n2 c2)).sb (w.heap.size + 1) 2 ((x1b.box.set ⟨w.heap.size + 1, 0, none⟩ (.bool b2)).set ⟨w.heap.size + 1, 1, none⟩ (.slice A2 n2 c2)) (by decide) (.slice A'2 n'2 c'2))).mono (by omega), (((bw2.sc (w.heap.size + 1) 0 (by omega) (.bool b2)).sc (w.heap.size + 1) 1 (by omega) (.slice A2 n2 c2)).sc (w.heap.size + 1) 2 (by omega) (.slice A'2 n'2 c'2))⟩
theorem g_abs_z (w : World) (b : Bool) (A : Option Addr) (n c : Nat) (D : Option Addr) (m e : Nat) (q : Rat) (k : Nat) (h : QZ w b A n c D m e q k) (h0 : 0 < k) (hk : k ≤ 40000000) (hx : q.num.sign = 0) :
  Calls Tryz.prog 64 #[.agg #[.bool b, .slice A n c, .slice D m e]] w (RetF w (q) (k + 2)) := by
 have HX := Lib.hid hx
 have HS := Lib.hid (h.sz h0)
 have HE := Lib.hid (show q + 0 = q from Rat.add_zero q)
 go_enter Tryz.func64, Tryz.ntmps64
 go_wp2_with fail
 (with_reducible refine (g_sign_v _ b A n c D m e (q) (k) ?_ (0) ?_ ?_ ?_).mono ?_); (exact (h.belw (((Below.refl _ _).alloc (Nat.le_refl _) _).alloc (by simp) _))); (exact HX.out); (first | omega | decide | assumption); (first | omega | decide | assumption); rintro e w1 ⟨rfl, hb1⟩
 have q1 := (((Below.refl _ _).alloc (Nat.le_refl _) _).alloc (by simp) _).trans (hb1.mono (by simp <;> omega))
 replace h := h.belw q1
 have x1a : Blk w1 w.heap.size 24 #[.bool b, .slice A n c, .slice D m e] := ((blkAt _ _ _ (by simp)).alloc _).below hb1 (by simp <;> omega)
 have x1b := (blkAt _ _ _ (g := w.heap.size + 1) (by simp)).below hb1 (by simp)
 have bw1 := (brefl w).trans (q1.mono (brefl w).size)
 have lw1 : w.heap.size + 2 ≤ w1.heap.size := by have := hb1.size; simp at this; omega
 clear q1
 obtain ⟨cx1aa, cx1ab, cx1ac⟩ := x1a.c3
 obtain ⟨lx1aa, lx1ab, lx1ac, lx1ad⟩ := lts0 x1a.lt
 go_wp2_with fail
 (with_reducible refine (g_add _ b A n c D m e (q) (k) ?_ false none 0 0 none 0 0 0 1 ?_ ?_ ?_ ?_ ?_).mono ?_); (exact h); (exact (QZ.zero _)); (first | omega | decide | assumption); (first | omega | decide | assumption); (first | omega | decide | assumption); (first | omega | decide | assumption); rintro e w2 ⟨b2, A2, n2, c2, A'2, n'2, c'2, rfl, h2, q2⟩
 clear cx1aa cx1ab cx1ac lx1aa lx1ab lx1ac lx1ad
 replace h := h.belw q2
 replace x1a := x1a.b q2
 replace x1b := x1b.b q2
 have bw2 := bw1.trans (q2.mono bw1.size)
 have lw2 := q2.size
 clear q2 bw1
 obtain ⟨cx1ba, cx1bb, cx1bc⟩ := x1b.c3
 obtain ⟨fx1ba, fx1bb, fx1bc⟩ := x1b.f3
 obtain ⟨lx1ba, lx1bb, lx1bc, lx1bd⟩ := lts1 x1b.lt
 go_wp2_with fail
 refine bodyPost_ret (v := .agg #[.bool b2, .slice A2 n2 c2, .slice A'2 n'2 c'2]) (by simp [results, Tryz.results64, go_sem, *] <;> first | rfl | exact ⟨rfl, rfl⟩) rfl ?_
 rw [HE.out] at h2
 exact ⟨b2, A2, n2, c2, A'2, n'2, c'2, rfl, (h2.keep ((((Kp.refl w2).sb (w.heap.size + 1) 0 x1b.box (by decide) (.bool b2)).sb (w.heap.size + 1) 1 (x1b.box.set ⟨w.heap.size + 1, 0, none⟩ (.bool b2)) (by decide) (.slice A2 n2 c2)).sb (w.heap.size + 1) 2 ((x1b.box.set ⟨w.heap.size + 1, 0, none⟩ (.bool b2)).set ⟨w.heap.size + 1, 1, none⟩ (.slice A2 n2 c2)) (by decide) (.slice A'2 n'2 c'2))).mono (by omega), (((bw2.sc (w.heap.size + 1) 0 (by omega) (.bool b2)).sc (w.heap.size + 1) 1 (by omega) (.slice A2 n2 c2)).sc (w.heap.size + 1) 2 (by omega) (.slice A'2 n'2 c'2))⟩
theorem g_abs_p (w : World) (b : Bool) (A : Option Addr) (n c : Nat) (D : Option Addr) (m e : Nat) (q : Rat) (k : Nat) (h : QZ w b A n c D m e q k) (h0 : 0 < k) (hk : k ≤ 40000000) (hx : q.num.sign = 1) :
  Calls Tryz.prog 64 #[.agg #[.bool b, .slice A n c, .slice D m e]] w (RetF w (q) (k + 2)) := by
 have HX := Lib.hid hx
 have HS := Lib.hid (h.sz h0)
 have HE := Lib.hid (show q + 0 = q from Rat.add_zero q)
 go_enter Tryz.func64, Tryz.ntmps64
 go_wp2_with fail
 (with_reducible refine (g_sign_v _ b A n c D m e (q) (k) ?_ (1) ?_ ?_ ?_).mono ?_); (exact (h.belw (((Below.refl _ _).alloc (Nat.le_refl _) _).alloc (by simp) _))); (exact HX.out); (first | omega | decide | assumption); (first | omega | decide | assumption); rintro e w1 ⟨rfl, hb1⟩
 have q1 := (((Below.refl _ _).alloc (Nat.le_refl _) _).alloc (by simp) _).trans (hb1.mono (by simp <;> omega))
 replace h := h.belw q1
 have x1a : Blk w1 w.heap.size 24 #[.bool b, .slice A n c, .slice D m e] := ((blkAt _ _ _ (by simp)).alloc _).below hb1 (by simp <;> omega)
 have x1b := (blkAt _ _ _ (g := w.heap.size + 1) (by simp)).below hb1 (by simp)
 have bw1 := (brefl w).trans (q1.mono (brefl w).size)
 have lw1 : w.heap.size + 2 ≤ w1.heap.size := by have := hb1.size; simp at this; omega
 clear q1
 obtain ⟨cx1aa, cx1ab, cx1ac⟩ := x1a.c3
 obtain ⟨lx1aa, lx1ab, lx1ac, lx1ad⟩ := lts0 x1a.lt
 go_wp2_with fail
 (with_reducible refine (g_add _ b A n c D m e (q) (k) ?_ false none 0 0 none 0 0 0 1 ?_ ?_ ?_ ?_ ?_).mono ?_); (exact h); (exact (QZ.zero _)); (first | omega | decide | assumption); (first | omega | decide | assumption); (first | omega | decide | assumption); (first | omega | decide | assumption); rintro e w2 ⟨b2, A2, n2, c2, A'2, n'2, c'2, rfl, h2, q2⟩
 clear cx1aa cx1ab cx1ac lx1aa lx1ab lx1ac lx1ad
 replace h := h.belw q2
 replace x1a := x1a.b q2
 replace x1b := x1b.b q2
 have bw2 := bw1.trans (q2.mono bw1.size)
 have lw2 := q2.size
 clear q2 bw1
 obtain ⟨cx1ba, cx1bb, cx1bc⟩ := x1b.c3
 obtain ⟨fx1ba, fx1bb, fx1bc⟩ := x1b.f3
 obtain ⟨lx1ba, lx1bb, lx1bc, lx1bd⟩ := lts1 x1b.lt
 go_wp2_with fail
 refine bodyPost_ret (v := .agg #[.bool b2, .slice A2 n2 c2, .slice A'2 n'2 c'2]) (by simp [results, Tryz.results64, go_sem, *] <;> first | rfl | exact ⟨rfl, rfl⟩) rfl ?_
 rw [HE.out] at h2
 exact ⟨b2, A2, n2, c2, A'2, n'2, c'2, rfl, (h2.keep ((((Kp.refl w2).sb (w.heap.size + 1) 0 x1b.box (by decide) (.bool b2)).sb (w.heap.size + 1) 1 (x1b.box.set ⟨w.heap.size + 1, 0, none⟩ (.bool b2)) (by decide) (.slice A2 n2 c2)).sb (w.heap.size + 1) 2 ((x1b.box.set ⟨w.heap.size + 1, 0, none⟩ (.bool b2)).set ⟨w.heap.size + 1, 1, none⟩ (.slice A2 n2 c2)) (by decide) (.slice A'2 n'2 c'2))).mono (by omega), (((bw2.sc (w.heap.size + 1) 0 (by omega) (.bool b2)).sc (w.heap.size + 1) 1 (by omega) (.slice A2 n2 c2)).sc (w.heap.size + 1) 2 (by omega) (.slice A'2 n'2 c'2))⟩
theorem g_min_l (w : World) (b : Bool) (A : Option Addr) (n c : Nat) (D : Option Addr) (m e : Nat) (q : Rat) (k : Nat) (h : QZ w b A n c D m e q k) (b' : Bool) (A' : Option Addr) (n' c' : Nat) (D' : Option Addr) (m' e' : Nat) (q' : Rat) (k' : Nat) (h' : QZ w b' A' n' c' D' m' e' q' k') (h0 : 0 < k) (hk : k ≤ 10000000) (h0' : 0 < k') (hk' : k' ≤ 10000000) (hx : rcmp q q' = -1) :
  Calls Tryz.prog 71 #[.agg #[.bool b, .slice A n c, .slice D m e], .agg #[.bool b', .slice A' n' c', .slice D' m' e']] w (RetF w (q) (k + 2)) := by
 have HX := Lib.hid hx
 have HS := Lib.hid (h.sz h0)
 have HS' := Lib.hid (h'.sz h0')
 have HE := Lib.hid (show q + 0 = q from Rat.add_zero _)
 go_enter Tryz.func71, Tryz.ntmps71
 go_wp2_with fail
 (with_reducible refine (g_cmp_v _ b A n c D m e (q) (k) ?_ b' A' n' c' D' m' e' (q') (k') ?_ (-1) ?_ ?_ ?_ ?_ ?_).mono ?_); (exact (h.belw ((((Below.refl _ _).alloc (Nat.le_refl _) _).alloc (by simp) _).alloc (by simp <;> omega) _))); (exact (h'.belw ((((Below.refl _ _).alloc (Nat.le_refl _) _).alloc (by simp) _).alloc (by simp <;> omega) _))); (exact HX.out); (first | omega | decide | assumption); (first | omega | decide | assumption); (first | omega | decide | assumption); (first | omega | decide | assumption); rintro e w1 ⟨rfl, hb1⟩
 have q1 := ((((Below.refl _ _).alloc (Nat.le_refl _) _).alloc (by simp) _).alloc (by simp <;> omega) _).trans (hb1.mono (by simp <;> omega))
 replace h := h.belw q1
 replace h' := h'.belw q1
 have x1a : Blk w1 w.heap.size 24 #[.bool b, .slice A n c, .slice D m e] := (((blkAt _ _ _ (by simp)).alloc _).alloc _).below hb1 (by simp <;> omega)
 have x1b := ((blkAt _ _ _ (g := w.heap.size + 1) (by simp)).alloc _).below hb1 (by simp <;> omega)
 have x1c := (blkAt _ _ _ (g := w.heap.size + 1 + 1) (by simp)).below hb1 (by simp)
 have bw1 := (brefl w).trans (q1.mono (brefl w).size)
 have lw1 : w.heap.size + 3 ≤ w1.heap.size := by have := hb1.size; simp at this; omega
 clear q1
 obtain ⟨cx1aa, cx1ab, cx1ac⟩ := x1a.c3
 obtain ⟨lx1aa, lx1ab, lx1ac, lx1ad⟩ := lts0 x1a.lt
 go_wp2_with fail
 (with_reducible refine (g_add _ b A n c D m e (q) (k) ?_ false none 0 0 none 0 0 0 1 ?_ ?_ ?_ ?_ ?_).mono ?_); (exact h); (exact (QZ.zero _)); (first | omega | decide | assumption); (first | omega | decide | assumption); (first | omega | decide | assumption); (first | omega | decide | assumption); rintro e w2 ⟨b2, A2, n2, c2, A'2, n'2, c'2, rfl, h2, q2⟩
 clear cx1aa cx1ab cx1ac lx1aa lx1ab lx1ac lx1ad
 replace h := h.belw q2
 replace h' := h'.belw q2
 replace x1a := x1a.b q2
 replace x1b := x1b.b q2
 replace x1c := x1c.b q2
 have bw2 := bw1.trans (q2.mono bw1.size)
 have lw2 := q2.size
 clear q2 bw1
 obtain ⟨cx1ca, cx1cb, cx1cc⟩ := x1c.c3
 obtain ⟨fx1ca, fx1cb, fx1cc⟩ := x1c.f3
 obtain ⟨lx1ca, lx1cb, lx1cc, lx1cd⟩ := lts2 x1c.lt
 go_wp2_with fail
 refine bodyPost_ret (v := .agg #[.bool b2, .slice A2 n2 c2, .slice A'2 n'2 c'2]) (by simp [results, Tryz.results71, go_sem, *] <;> first | rfl | exact ⟨rfl, rfl⟩) rfl ?_
 rw [HE.out] at h2
 exact ⟨b2, A2, n2, c2, A'2, n'2, c'2, rfl, (h2.keep ((((Kp.refl w2).sb (w.heap.size + 1 + 1) 0 x1c.box (by decide) (.bool b2)).sb (w.heap.size + 1 + 1) 1 (x1c.box.set ⟨w.heap.size + 1 + 1, 0, none⟩ (.bool b2)) (by decide) (.slice A2 n2 c2)).sb (w.heap.size + 1 + 1) 2 ((x1c.box.set ⟨w.heap.size + 1 + 1, 0, none⟩ (.bool b2)).set ⟨w.heap.size + 1 + 1, 1, none⟩ (.slice A2 n2 c2)) (by decide) (.slice A'2 n'2 c'2))).mono (by omega), (((bw2.sc (w.heap.size + 1 + 1) 0 (by omega) (.bool b2)).sc (w.heap.size + 1 + 1) 1 (by omega) (.slice A2 n2 c2)).sc (w.heap.size + 1 + 1) 2 (by omega) (.slice A'2 n'2 c'2))⟩
theorem g_min_e (w : World) (b : Bool) (A : Option Addr) (n c : Nat) (D : Option Addr) (m e : Nat) (q : Rat) (k : Nat) (h : QZ w b A n c D m e q k) (b' : Bool) (A' : Option Addr) (n' c' : Nat) (D' : Option Addr) (m' e' : Nat) (q' : Rat) (k' : Nat) (h' : QZ w b' A' n' c' D' m' e' q' k') (h0 : 0 < k) (hk : k ≤ 10000000) (h0' : 0 < k') (hk' : k' ≤ 10000000) (hx : rcmp q q' = 0) :
  Calls Tryz.prog 71 #[.agg #[.bool b, .slice A n c, .slice D m e], .agg #[.bool b', .slice A' n' c', .slice D' m' e']] w (RetF w (q) (k + 2)) := by
 have HX := Lib.hid hx
 have HS := Lib.hid (h.sz h0)
 have HS' := Lib.hid (h'.sz h0')
 have HE := Lib.hid (show q + 0 = q from Rat.add_zero _)
 go_enter Tryz.func71, Tryz.ntmps71
 go_wp2_with fail
 (with_reducible refine (g_cmp_v _ b A n c D m e (q) (k) ?_ b' A' n' c' D' m' e' (q') (k') ?_ (0) ?_ ?_ ?_ ?_ ?_).mono ?_); (exact (h.belw ((((Below.refl _ _).alloc (Nat.le_refl _) _).alloc (by simp) _).alloc (by simp <;> omega) _))); (exact (h'.belw ((((Below.refl _ _).alloc (Nat.le_refl _) _).alloc (by simp) _).alloc (by simp <;> omega) _))); (exact HX.out); (first | omega | decide | assumption); (first | omega | decide | assumption); (first | omega | decide | assumption); (first | omega | decide | assumption); rintro e w1 ⟨rfl, hb1⟩
 have q1 := ((((Below.refl _ _).alloc (Nat.le_refl _) _).alloc (by simp) _).alloc (by simp <;> omega) _).trans (hb1.mono (by simp <;> omega))
 replace h := h.belw q1
 replace h' := h'.belw q1
 have x1a : Blk w1 w.heap.size 24 #[.bool b, .slice A n c, .slice D m e] := (((blkAt _ _ _ (by simp)).alloc _).alloc _).below hb1 (by simp <;> omega)
 have x1b := ((blkAt _ _ _ (g := w.heap.size + 1) (by simp)).alloc _).below hb1 (by simp <;> omega)
 have x1c := (blkAt _ _ _ (g := w.heap.size + 1 + 1) (by simp)).below hb1 (by simp)
 have bw1 := (brefl w).trans (q1.mono (brefl w).size)
 have lw1 : w.heap.size + 3 ≤ w1.heap.size := by have := hb1.size; simp at this; omega
 clear q1
 obtain ⟨cx1aa, cx1ab, cx1ac⟩ := x1a.c3
 obtain ⟨lx1aa, lx1ab, lx1ac, lx1ad⟩ := lts0 x1a.lt
 go_wp2_with fail
 (with_reducible refine (g_add _ b A n c D m e (q) (k) ?_ false none 0 0 none 0 0 0 1 ?_ ?_ ?_ ?_ ?_).mono ?_); (exact h); (exact (QZ.zero _)); (first | omega | decide | assumption); (first | omega | decide | assumption); (first | omega | decide | assumption); (first | omega | decide | assumption); rintro e w2 ⟨b2, A2, n2, c2, A'2, n'2, c'2, rfl, h2, q2⟩
 clear cx1aa cx1ab cx1ac lx1aa lx1ab lx1ac lx1ad
 replace h := h.belw q2
 replace h' := h'.belw q2
 replace x1a := x1a.b q2
 replace x1b := x1b.b q2
 replace x1c := x1c.b q2
 have bw2 := bw1.trans (q2.mono bw1.size)
 have lw2 := q2.size
 clear q2 bw1
 obtain ⟨cx1ca, cx1cb, cx1cc⟩ := x1c.c3
 obtain ⟨fx1ca, fx1cb, fx1cc⟩ := x1c.f3
 obtain ⟨lx1ca, lx1cb, lx1cc, lx1cd⟩ := lts2 x1c.lt
 go_wp2_with fail
 refine bodyPost_ret (v := .agg #[.bool b2, .slice A2 n2 c2, .slice A'2 n'2 c'2]) (by simp [results, Tryz.results71, go_sem, *] <;> first | rfl | exact ⟨rfl, rfl⟩) rfl ?_
 rw [HE.out] at h2
 exact ⟨b2, A2, n2, c2, A'2, n'2, c'2, rfl, (h2.keep ((((Kp.refl w2).sb (w.heap.size + 1 + 1) 0 x1c.box (by decide) (.bool b2)).sb (w.heap.size + 1 + 1) 1 (x1c.box.set ⟨w.heap.size + 1 + 1, 0, none⟩ (.bool b2)) (by decide) (.slice A2 n2 c2)).sb (w.heap.size + 1 + 1) 2 ((x1c.box.set ⟨w.heap.size + 1 + 1, 0, none⟩ (.bool b2)).set ⟨w.heap.size + 1 + 1, 1, none⟩ (.slice A2 n2 c2)) (by decide) (.slice A'2 n'2 c'2))).mono (by omega), (((bw2.sc (w.heap.size + 1 + 1) 0 (by omega) (.bool b2)).sc (w.heap.size + 1 + 1) 1 (by omega) (.slice A2 n2 c2)).sc (w.heap.size + 1 + 1) 2 (by omega) (.slice A'2 n'2 c'2))⟩
theorem g_min_g (w : World) (b : Bool) (A : Option Addr) (n c : Nat) (D : Option Addr) (m e : Nat) (q : Rat) (k : Nat) (h : QZ w b A n c D m e q k) (b' : Bool) (A' : Option Addr) (n' c' : Nat) (D' : Option Addr) (m' e' : Nat) (q' : Rat) (k' : Nat) (h' : QZ w b' A' n' c' D' m' e' q' k') (h0 : 0 < k) (hk : k ≤ 10000000) (h0' : 0 < k') (hk' : k' ≤ 10000000) (hx : rcmp q q' = 1) :
  Calls Tryz.prog 71 #[.agg #[.bool b, .slice A n c, .slice D m e], .agg #[.bool b', .slice A' n' c', .slice D' m' e']] w (RetF w (q') (k' + 2)) := by
 have HX := Lib.hid hx
 have HS := Lib.hid (h.sz h0)
 have HS' := Lib.hid (h'.sz h0')
 have HE := Lib.hid (show q' + 0 = q' from Rat.add_zero _)
 go_enter Tryz.func71, Tryz.ntmps71
 go_wp2_with fail
 (with_reducible refine (g_cmp_v _ b A n c D m e (q) (k) ?_ b' A' n' c' D' m' e' (q') (k') ?_ (1) ?_ ?_ ?_ ?_ ?_).mono ?_); (exact (h.belw ((((Below.refl _ _).alloc (Nat.le_refl _) _).alloc (by simp) _).alloc (by simp <;> omega) _))); (exact (h'.belw ((((Below.refl _ _).alloc (Nat.le_refl _) _).alloc (by simp) _).alloc (by simp <;> omega) _))); (exact HX.out); (first | omega | decide | assumption); (first | omega | decide | assumption); (first | omega | decide | assumption); (first | omega | decide | assumption); rintro e w1 ⟨rfl, hb1⟩
 have q1 := ((((Below.refl _ _).alloc (Nat.le_refl _) _).alloc (by simp) _).alloc (by simp <;> omega) _).trans (hb1.mono (by simp <;> omega))
 replace h := h.belw q1
 replace h' := h'.belw q1
 have x1a : Blk w1 w.heap.size 24 #[.bool b, .slice A n c, .slice D m e] := (((blkAt _ _ _ (by simp)).alloc _).alloc _).below hb1 (by simp <;> omega)
 have x1b := ((blkAt _ _ _ (g := w.heap.size + 1) (by simp)).alloc _).below hb1 (by simp <;> omega)
 have x1c := (blkAt _ _ _ (g := w.heap.size + 1 + 1) (by simp)).below hb1 (by simp)
 have bw1 := (brefl w).trans (q1.mono (brefl w).size)
 have lw1 : w.heap.size + 3 ≤ w1.heap.size := by have := hb1.size; simp at this; omega
 clear q1
 obtain ⟨cx1ba, cx1bb, cx1bc⟩ := x1b.c3
 obtain ⟨lx1ba, lx1bb, lx1bc, lx1bd⟩ := lts1 x1b.lt
 go_wp2_with fail
 (with_reducible refine (g_add _ b' A' n' c' D' m' e' (q') (k') ?_ false none 0 0 none 0 0 0 1 ?_ ?_ ?_ ?_ ?_).mono ?_); (exact h'); (exact (QZ.zero _)); (first | omega | decide | assumption); (first | omega | decide | assumption); (first | omega | decide | assumption); (first | omega | decide | assumption); rintro e w2 ⟨b2, A2, n2, c2, A'2, n'2, c'2, rfl, h2, q2⟩
 clear cx1ba cx1bb cx1bc lx1ba lx1bb lx1bc lx1bd
 replace h := h.belw q2
 replace h' := h'.belw q2
 replace x1a := x1a.b q2
 replace x1b := x1b.b q2
 replace x1c := x1c.b q2
 have bw2 := bw1.trans (q2.mono bw1.size)
 have lw2 := q2.size
 clear q2 bw1
 obtain ⟨cx1ca, cx1cb, cx1cc⟩ := x1c.c3
 obtain ⟨fx1ca, fx1cb, fx1cc⟩ := x1c.f3
 obtain ⟨lx1ca, lx1cb, lx1cc, lx1cd⟩ := lts2 x1c.lt
 go_wp2_with fail
 refine bodyPost_ret (v := .agg #[.bool b2, .slice A2 n2 c2, .slice A'2 n'2 c'2]) (by simp [results, Tryz.results71, go_sem, *] <;> first | rfl | exact ⟨rfl, rfl⟩) rfl ?_
 rw [HE.out] at h2
 exact ⟨b2, A2, n2, c2, A'2, n'2, c'2, rfl, (h2.keep ((((Kp.refl w2).sb (w.heap.size + 1 + 1) 0 x1c.box (by decide) (.bool b2)).sb (w.heap.size + 1 + 1) 1 (x1c.box.set ⟨w.heap.size + 1 + 1, 0, none⟩ (.bool b2)) (by decide) (.slice A2 n2 c2)).sb (w.heap.size + 1 + 1) 2 ((x1c.box.set ⟨w.heap.size + 1 + 1, 0, none⟩ (.bool b2)).set ⟨w.heap.size + 1 + 1, 1, none⟩ (.slice A2 n2 c2)) (by decide) (.slice A'2 n'2 c'2))).mono (by omega), (((bw2.sc (w.heap.size + 1 + 1) 0 (by omega) (.bool b2)).sc (w.heap.size + 1 + 1) 1 (by omega) (.slice A2 n2 c2)).sc (w.heap.size + 1 + 1) 2 (by omega) (.slice A'2 n'2 c'2))⟩
theorem g_max_l (w : World) (b : Bool) (A : Option Addr) (n c : Nat) (D : Option Addr) (m e : Nat) (q : Rat) (k : Nat) (h : QZ w b A n c D m e q k) (b' : Bool) (A' : Option Addr) (n' c' : Nat) (D' : Option Addr) (m' e' : Nat) (q' : Rat) (k' : Nat) (h' : QZ w b' A' n' c' D' m' e' q' k') (h0 : 0 < k) (hk : k ≤ 10000000) (h0' : 0 < k') (hk' : k' ≤ 10000000) (hx : rcmp q q' = -1) :
  Calls Tryz.prog 73 #[.agg #[.bool b, .slice A n c, .slice D m e], .agg #[.bool b', .slice A' n' c', .slice D' m' e']] w (RetF w (q') (k' + 2)) := by
 have HX := Lib.hid hx
 have HS := Lib.hid (h.sz h0)
 have HS' := Lib.hid (h'.sz h0')
 have HE := Lib.hid (show q' + 0 = q' from Rat.add_zero _)
 go_enter Tryz.func73, Tryz.ntmps73
 go_wp2_with fail
 (with_reducible refine (g_cmp_v _ b A n c D m e (q) (k) ?_ b' A' n' c' D' m' e' (q') (k') ?_ (-1) ?_ ?_ ?_ ?_ ?_).mono ?_); (exact (h.belw ((((Below.refl _ _).alloc (Nat.le_refl _) _).alloc (by simp) _).alloc (by simp <;> omega) _))); (exact (h'.belw ((((Below.refl _ _).alloc (Nat.le_refl _) _).alloc (by simp) _).alloc (by simp <;> omega) _))); (exact HX.out); (first | omega | decide | assumption); (first | omega | decide | assumption); (first | omega | decide | assumption); (first | omega | decide | assumption); rintro e w1 ⟨rfl, hb1⟩
 have q1 := ((((Below.refl _ _).alloc (Nat.le_refl _) _).alloc (by simp) _).alloc (by simp <;> omega) _).trans (hb1.mono (by simp <;> omega))
 replace h := h.belw q1
 replace h' := h'.belw q1
 have x1a : Blk w1 w.heap.size 24 #[.bool b, .slice A n c, .slice D m e] := (((blkAt _ _ _ (by simp)).alloc _).alloc _).below hb1 (by simp <;> omega)
 have x1b := ((blkAt _ _ _ (g := w.heap.size + 1) (by simp)).alloc _).below hb1 (by simp <;> omega)
 have x1c := (blkAt _ _ _ (g := w.heap.size + 1 + 1) (by simp)).below hb1 (by simp)
 have bw1 := (brefl w).trans (q1.mono (brefl w).size)
 have lw1 : w.heap.size + 3 ≤ w1.heap.size := by have := hb1.size; simp at this; omega
 clear q1
 obtain ⟨cx1ba, cx1bb, cx1bc⟩ := x1b.c3
 obtain ⟨lx1ba, lx1bb, lx1bc, lx1bd⟩ := lts1 x1b.lt
 go_wp2_with fail
 (with_reducible refine (g_add _ b' A' n' c' D' m' e' (q') (k') ?_ false none 0 0 none 0 0 0 1 ?_ ?_ ?_ ?_ ?_).mono ?_); (exact h'); (exact (QZ.zero _)); (first | omega | decide | assumption); (first | omega | decide | assumption); (first | omega | decide | assumption); (first | omega | decide | assumption); rintro e w2 ⟨b2, A2, n2, c2, A'2, n'2, c'2, rfl, h2, q2⟩
 clear cx1ba cx1bb cx1bc lx1ba lx1bb lx1bc lx1bd
 replace h := h.belw q2
 replace h' := h'.belw q2
 replace x1a := x1a.b q2
 replace x1b := x1b.b q2
 replace x1c := x1c.b q2
 have bw2 := bw1.trans (q2.mono bw1.size)
 have lw2 := q2.size
 clear q2 bw1
 obtain ⟨cx1ca, cx1cb, cx1cc⟩ := x1c.c3
 obtain ⟨fx1ca, fx1cb, fx1cc⟩ := x1c.f3
 obtain ⟨lx1ca, lx1cb, lx1cc, lx1cd⟩ := lts2 x1c.lt
 go_wp2_with fail
 refine bodyPost_ret (v := .agg #[.bool b2, .slice A2 n2 c2, .slice A'2 n'2 c'2]) (by simp [results, Tryz.results73, go_sem, *] <;> first | rfl | exact ⟨rfl, rfl⟩) rfl ?_
 rw [HE.out] at h2
 exact ⟨b2, A2, n2, c2, A'2, n'2, c'2, rfl, (h2.keep ((((Kp.refl w2).sb (w.heap.size + 1 + 1) 0 x1c.box (by decide) (.bool b2)).sb (w.heap.size + 1 + 1) 1 (x1c.box.set ⟨w.heap.size + 1 + 1, 0, none⟩ (.bool b2)) (by decide) (.slice A2 n2 c2)).sb (w.heap.size + 1 + 1) 2 ((x1c.box.set ⟨w.heap.size + 1 + 1, 0, none⟩ (.bool b2)).set ⟨w.heap.size + 1 + 1, 1, none⟩ (.slice A2 n2 c2)) (by decide) (.slice A'2 n'2 c'2))).mono (by omega), (((bw2.sc (w.heap.size + 1 + 1) 0 (by omega) (.bool b2)).sc (w.heap.size + 1 + 1) 1 (by omega) (.slice A2 n2 c2)).sc (w.heap.size + 1 + 1) 2 (by omega) (.slice A'2 n'2 c'2))⟩
theorem g_max_e (w : World) (b : Bool) (A : Option Addr) (n c : Nat) (D : Option Addr) (m e : Nat) (q : Rat) (k : Nat) (h : QZ w b A n c D m e q k) (b' : Bool) (A' : Option Addr) (n' c' : Nat) (D' : Option Addr) (m' e' : Nat) (q' : Rat) (k' : Nat) (h' : QZ w b' A' n' c' D' m' e' q' k') (h0 : 0 < k) (hk : k ≤ 10000000) (h0' : 0 < k') (hk' : k' ≤ 10000000) (hx : rcmp q q' = 0) :
  Calls Tryz.prog 73 #[.agg #[.bool b, .slice A n c, .slice D m e], .agg #[.bool b', .slice A' n' c', .slice D' m' e']] w (RetF w (q) (k + 2)) := by
 have HX := Lib.hid hx
 have HS := Lib.hid (h.sz h0)
 have HS' := Lib.hid (h'.sz h0')
 have HE := Lib.hid (show q + 0 = q from Rat.add_zero _)
 go_enter Tryz.func73, Tryz.ntmps73
 go_wp2_with fail
 (with_reducible refine (g_cmp_v _ b A n c D m e (q) (k) ?_ b' A' n' c' D' m' e' (q') (k') ?_ (0) ?_ ?_ ?_ ?_ ?_).mono ?_); (exact (h.belw ((((Below.refl _ _).alloc (Nat.le_refl _) _).alloc (by simp) _).alloc (by simp <;> omega) _))); (exact (h'.belw ((((Below.refl _ _).alloc (Nat.le_refl _) _).alloc (by simp) _).alloc (by simp <;> omega) _))); (exact HX.out); (first | omega | decide | assumption); (first | omega | decide | assumption); (first | omega | decide | assumption); (first | omega | decide | assumption); rintro e w1 ⟨rfl, hb1⟩
 have q1 := ((((Below.refl _ _).alloc (Nat.le_refl _) _).alloc (by simp) _).alloc (by simp <;> omega) _).trans (hb1.mono (by simp <;> omega))
 replace h := h.belw q1
 replace h' := h'.belw q1
 have x1a : Blk w1 w.heap.size 24 #[.bool b, .slice A n c, .slice D m e] := (((blkAt _ _ _ (by simp)).alloc _).alloc _).below hb1 (by simp <;> omega)
 have x1b := ((blkAt _ _ _ (g := w.heap.size + 1) (by simp)).alloc _).below hb1 (by simp <;> omega)
 have x1c := (blkAt _ _ _ (g := w.heap.size + 1 + 1) (by simp)).below hb1 (by simp)
 have bw1 := (brefl w).trans (q1.mono (brefl w).size)
 have lw1 : w.heap.size + 3 ≤ w1.heap.size := by have := hb1.size; simp at this; omega
 clear q1
 obtain ⟨cx1aa, cx1ab, cx1ac⟩ := x1a.c3
 obtain ⟨lx1aa, lx1ab, lx1ac, lx1ad⟩ := lts0 x1a.lt
 go_wp2_with fail
 (with_reducible refine (g_add _ b A n c D m e (q) (k) ?_ false none 0 0 none 0 0 0 1 ?_ ?_ ?_ ?_ ?_).mono ?_); (exact h); (exact (QZ.zero _)); (first | omega | decide | assumption); (first | omega | decide | assumption); (first | omega | decide | assumption); (first | omega | decide | assumption); rintro e w2 ⟨b2, A2, n2, c2, A'2, n'2, c'2, rfl, h2, q2⟩
 clear cx1aa cx1ab cx1ac lx1aa lx1ab lx1ac lx1ad
 replace h := h.belw q2
 replace h' := h'.belw q2
 replace x1a := x1a.b q2
 replace x1b := x1b.b q2
 replace x1c := x1c.b q2
 have bw2 := bw1.trans (q2.mono bw1.size)
 have lw2 := q2.size
 clear q2 bw1
 obtain ⟨cx1ca, cx1cb, cx1cc⟩ := x1c.c3
 obtain ⟨fx1ca, fx1cb, fx1cc⟩ := x1c.f3
 obtain ⟨lx1ca, lx1cb, lx1cc, lx1cd⟩ := lts2 x1c.lt
 go_wp2_with fail
 refine bodyPost_ret (v := .agg #[.bool b2, .slice A2 n2 c2, .slice A'2 n'2 c'2]) (by simp [results, Tryz.results73, go_sem, *] <;> first | rfl | exact ⟨rfl, rfl⟩) rfl ?_
 rw [HE.out] at h2
 exact ⟨b2, A2, n2, c2, A'2, n'2, c'2, rfl, (h2.keep ((((Kp.refl w2).sb (w.heap.size + 1 + 1) 0 x1c.box (by decide) (.bool b2)).sb (w.heap.size + 1 + 1) 1 (x1c.box.set ⟨w.heap.size + 1 + 1, 0, none⟩ (.bool b2)) (by decide) (.slice A2 n2 c2)).sb (w.heap.size + 1 + 1) 2 ((x1c.box.set ⟨w.heap.size + 1 + 1, 0, none⟩ (.bool b2)).set ⟨w.heap.size + 1 + 1, 1, none⟩ (.slice A2 n2 c2)) (by decide) (.slice A'2 n'2 c'2))).mono (by omega), (((bw2.sc (w.heap.size + 1 + 1) 0 (by omega) (.bool b2)).sc (w.heap.size + 1 + 1) 1 (by omega) (.slice A2 n2 c2)).sc (w.heap.size + 1 + 1) 2 (by omega) (.slice A'2 n'2 c'2))⟩
theorem g_max_g (w : World) (b : Bool) (A : Option Addr) (n c : Nat) (D : Option Addr) (m e : Nat) (q : Rat) (k : Nat) (h : QZ w b A n c D m e q k) (b' : Bool) (A' : Option Addr) (n' c' : Nat) (D' : Option Addr) (m' e' : Nat) (q' : Rat) (k' : Nat) (h' : QZ w b' A' n' c' D' m' e' q' k') (h0 : 0 < k) (hk : k ≤ 10000000) (h0' : 0 < k') (hk' : k' ≤ 10000000) (hx : rcmp q q' = 1) :
  Calls Tryz.prog 73 #[.agg #[.bool b, .slice A n c, .slice D m e], .agg #[.bool b', .slice A' n' c', .slice D' m' e']] w (RetF w (q) (k + 2)) := by
 have HX := Lib.hid hx
 have HS := Lib.hid (h.sz h0)
 have HS' := Lib.hid (h'.sz h0')
 have HE := Lib.hid (show q + 0 = q from Rat.add_zero _)
 go_enter Tryz.func73, Tryz.ntmps73
 go_wp2_with fail
 (with_reducible refine (g_cmp_v _ b A n c D m e (q) (k) ?_ b' A' n' c' D' m' e' (q') (k') ?_ (1) ?_ ?_ ?_ ?_ ?_).mono ?_); (exact (h.belw ((((Below.refl _ _).alloc (Nat.le_refl _) _).alloc (by simp) _).alloc (by simp <;> omega) _))); (exact (h'.belw ((((Below.refl _ _).alloc (Nat.le_refl _) _).alloc (by simp) _).alloc (by simp <;> omega) _))); (exact HX.out); (first | omega | decide | assumption); (first | omega | decide | assumption); (first | omega | decide | assumption); (first | omega | decide | assumption); rintro e w1 ⟨rfl, hb1⟩
 have q1 := ((((Below.refl _ _).alloc (Nat.le_refl _) _).alloc (by simp) _).alloc (by simp <;> omega) _).trans (hb1.mono (by simp <;> omega))
 replace h := h.belw q1
 replace h' := h'.belw q1
 have x1a : Blk w1 w.heap.size 24 #[.bool b, .slice A n c, .slice D m e] := (((blkAt _ _ _ (by simp)).alloc _).alloc _).below hb1 (by simp <;> omega)
 have x1b := ((blkAt _ _ _ (g := w.heap.size + 1) (by simp)).alloc _).below hb1 (by simp <;> omega)
 have x1c := (blkAt _ _ _ (g := w.heap.size + 1 + 1) (by simp)).below hb1 (by simp)
 have bw1 := (brefl w).trans (q1.mono (brefl w).size)
 have lw1 : w.heap.size + 3 ≤ w1.heap.size := by have := hb1.size; simp at this; omega
 clear q1
 obtain ⟨cx1aa, cx1ab, cx1ac⟩ := x1a.c3
 obtain ⟨lx1aa, lx1ab, lx1ac, lx1ad⟩ := lts0 x1a.lt
 go_wp2_with fail
 (with_reducible refine (g_add _ b A n c D m e (q) (k) ?_ false none 0 0 none 0 0 0 1 ?_ ?_ ?_ ?_ ?_).mono ?_); (exact h); (exact (QZ.zero _)); (first | omega | decide | assumption); (first | omega | decide | assumption); (first | omega | decide | assumption); (first | omega | decide | assumption); rintro e w2 ⟨b2, A2, n2, c2, A'2, n'2, c'2, rfl, h2, q2⟩
 clear cx1aa cx1ab cx1ac lx1aa lx1ab lx1ac lx1ad
 replace h := h.belw q2
 replace h' := h'.belw q2
 replace x1a := x1a.b q2
 replace x1b := x1b.b q2
 replace x1c := x1c.b q2
 have bw2 := bw1.trans (q2.mono bw1.size)
 have lw2 := q2.size
 clear q2 bw1
 obtain ⟨cx1ca, cx1cb, cx1cc⟩ := x1c.c3
 obtain ⟨fx1ca, fx1cb, fx1cc⟩ := x1c.f3
 obtain ⟨lx1ca, lx1cb, lx1cc, lx1cd⟩ := lts2 x1c.lt
 go_wp2_with fail
 refine bodyPost_ret (v := .agg #[.bool b2, .slice A2 n2 c2, .slice A'2 n'2 c'2]) (by simp [results, Tryz.results73, go_sem, *] <;> first | rfl | exact ⟨rfl, rfl⟩) rfl ?_
 rw [HE.out] at h2
 exact ⟨b2, A2, n2, c2, A'2, n'2, c'2, rfl, (h2.keep ((((Kp.refl w2).sb (w.heap.size + 1 + 1) 0 x1c.box (by decide) (.bool b2)).sb (w.heap.size + 1 + 1) 1 (x1c.box.set ⟨w.heap.size + 1 + 1, 0, none⟩ (.bool b2)) (by decide) (.slice A2 n2 c2)).sb (w.heap.size + 1 + 1) 2 ((x1c.box.set ⟨w.heap.size + 1 + 1, 0, none⟩ (.bool b2)).set ⟨w.heap.size + 1 + 1, 1, none⟩ (.slice A2 n2 c2)) (by decide) (.slice A'2 n'2 c'2))).mono (by omega), (((bw2.sc (w.heap.size + 1 + 1) 0 (by omega) (.bool b2)).sc (w.heap.size + 1 + 1) 1 (by omega) (.slice A2 n2 c2)).sc (w.heap.size + 1 + 1) 2 (by omega) (.slice A'2 n'2 c'2))⟩
end Go.Proofs.YtkpjhmpjihchpaaGreatDoor

namespace Go.Proofs.YtkpjhmpjihchpaaGreatDoor
open Go Go.RowKit Bn

theorem b_num_nil (w : World) : Calls Tryz.prog 21 #[.nilIface] w (RetV w (.int .i64 0)) := by
 go_enter Tryz.func21, Tryz.ntmps21
 go_wp2
 go_ret
 exact ⟨rfl, brefl w⟩
theorem run_as_err (x : Int) (w : World) : (Instr.typeAssert (.iface 77 (.int .i64 x)) 30 77 true).run Tryz.prog w = .ok (.tuple #[.int .i64 x, .bool true]) w := by
  simp [Instr.typeAssert, run_underlying Tryz.underlying77]
theorem b_num_err (w : World) (x : Int) : Calls Tryz.prog 21 #[.iface 77 (.int .i64 x)] w (RetV w (.int .i64 x)) := by
 go_enter Tryz.func21, Tryz.ntmps21
 have hr := run_as_err x
 go_wp2
 go_ret
 exact ⟨rfl, brefl w⟩
end Go.Proofs.YtkpjhmpjihchpaaGreatDoor

namespace Go.Proofs.YtkpjhmpjihchpaaGreatDoor
open Go Go.RowKit Bn
attribute [local go_sem ↓] Go.wp_at_zero Go.wp_at_succ
theorem b_num_v (w : World) (x : Int) : Calls Tryz.prog 21 #[errV x] w (RetV w (.int .i64 x)) := by
  unfold errV
  split
  · rename_i h; subst h; exact b_num_nil w
  · exact b_num_err w x
end Go.Proofs.YtkpjhmpjihchpaaGreatDoor

namespace Go.Proofs.YtkpjhmpjihchpaaGreatDoor
open Go Go.RowKit Bn
attribute [local go_sem ↓] Go.wp_at_zero Go.wp_at_succ
theorem rsq2 {w : World} {g : Nat} {T : TypeId} {b : Bool} {A : Option Addr} {n c : Nat} {D : Option Addr} {m e : Nat} {b1 : Bool} {A1 : Option Addr} {n1 c1 : Nat} {D1 : Option Addr} {m1 e1 : Nat}
    (hb : Blk w g T #[.bool b, .slice A n c, .slice D m e, .bool b1, .slice A1 n1 c1, .slice D1 m1 e1]) : RsQ w g 2 (fun i : Nat => if i = 0 then n else n1) (fun i : Nat => if i = 0 then m else m1) := by
  refine ⟨hb.lt, fun i hi => ?_⟩
  match i, hi with
  | 0, _ => exact ⟨_, _, _, _, _, hb.cell 0, hb.cell 1, hb.cell 2⟩
  | 1, _ => exact ⟨_, _, _, _, _, hb.cell 3, hb.cell 4, hb.cell 5⟩
theorem QD.short2 {w : World} {b : Bool} {A D : Option Addr} {n c m e k : Nat} {r : RD} (h : QD w b A n c D m e r k) (hs : n ≤ 12 ∧ m ≤ 12) : QD w b A n c D m e r 12 := ⟨h.1, h.2.1, h.2.2.1, hs.1, hs.2⟩
end Go.Proofs.YtkpjhmpjihchpaaGreatDoor

namespace Bn
theorem rcmp_cases (a b : Rat) : (a < b ∧ rcmp a b = -1) ∨ (a = b ∧ rcmp a b = 0) ∨ (b < a ∧ rcmp a b = 1) := by
  have h1 := rcmp_neg a b
  rcases (show a < b ∨ a = b ∨ b < a by grind) with h | h | h
  · left; exact ⟨h, by unfold rcmp; rw [if_pos h]⟩
  · right; left; exact ⟨h, rcmp_zero.2 h⟩
  · right; right; exact ⟨h, by rw [h1]; unfold rcmp; rw [if_pos h]; rfl⟩
def absQ (q : Rat) : Rat := if q.num < 0 then -q else q
end Bn

namespace Go.Proofs.YtkpjhmpjihchpaaGreatDoor
open Go Go.RowKit Bn
attribute [local go_sem ↓] Go.wp_at_zero Go.wp_at_succ
theorem b_words (w : World) (A : Option Addr) (n c : Nat) (l : List Nat) (wa : Wd w A n c l) (A' : Option Addr) (n' c' : Nat) (wb : Wd w A' n' c' l) (hn : n ≤ 1000000000) :
  Calls Tryz.prog 128 #[.slice A n c, .slice A' n' c'] w (RetV w (.bool true)) := by
 have hnn : n' = n := by rw [wa.2.1, wb.2.1]
 subst hnn
 have HA := Lib.hid wa
 have HB := Lib.hid wb
 clear wa wb
 go_enter Tryz.func128, Tryz.ntmps128
 go_wp2_with fail
 go_loopw [5] (fun iv wr => ∃ (i q : Nat), i ≤ n' ∧ iv = .int .i64 (i : Nat) ∧ wr = w.drewN q) (fun iv _ => n' - (intOf iv).toNat)
 case atStart => exact ⟨0, 0, Nat.zero_le _, rfl, rfl⟩
 case round =>
  obtain ⟨i, q, hi, rfl, rfl⟩ := hrel
  by_cases hlt : i < n'
  ·obtain ⟨g, o, rfl, hc1⟩ := HA.out.at_ (by omega)
   obtain ⟨g', o', rfl, hc2⟩ := HB.out.at_ (by omega)
   have h1 := hc1 i hlt
   have h2 := hc2 i hlt
   have hi0 : (0 : Int) ≤ (i : Int) := by omega
   have hi1 : (i : Int) < (n' : Int) := by omega
   generalize wd l i = x at h1 h2
   clear hc1 hc2
   go_wp2_with fail
   go_quiet (fail)
   go_wp2
   go_roundw
   case rel => exact ⟨i + 1, _, by omega, by go_num, rfl⟩
   case measure => simp [intOf]; omega
  ·go_wp2
   go_ret
   exact retB rfl (by repeat (first | exact Below.refl _ _ | refine below_drewN ?_ _))
theorem b_rat (w : World) (b : Bool) (A : Option Addr) (n c : Nat) (D : Option Addr) (m e : Nat) (b' : Bool) (A' : Option Addr) (n' c' : Nat) (D' : Option Addr) (m' e' : Nat) (q : Rat) (k k' : Nat) (h : QV w b A n c D m e q k) (h' : QV w b' A' n' c' D' m' e' q k') (hk : k ≤ 1000000) :
  Calls Tryz.prog 80 #[.agg #[.bool b, .slice A n c, .slice D m e], .agg #[.bool b', .slice A' n' c', .slice D' m' e']] w (RetV w (.bool true)) := by
 obtain ⟨e1, ha, hd, hk1, hk2⟩ := h
 obtain ⟨e1', ha', hd', _, _⟩ := h'
 subst e1 e1'
 have HE : ((rd q).neg == (rd q).neg) = true := by simp
 have HA := Lib.hid (And.intro ha ha')
 have HD := Lib.hid (And.intro hd hd')
 clear ha ha' hd hd'
 go_enter Tryz.func80, Tryz.ntmps80
 go_wp2_with fail
 (with_reducible refine (b_words _ A n c (rd q).num ?_ A' n' c' ?_ ?_).mono ?_); (exact HA.out.1.keep (((Kp.refl _).alloc _).alloc _)); (exact HA.out.2.keep (((Kp.refl _).alloc _).alloc _)); (omega); rintro e w1 ⟨rfl, hb⟩
 have q1 : Below w.heap.size w w1 := (((Below.refl _ _).alloc (Nat.le_refl _) _).alloc (by simp) _).trans (hb.mono (by simp <;> omega))
 have x0 : Blk w1 w.heap.size 24 #[.bool (rd q).neg, .slice A n c, .slice D m e] := ((blkAt w _ _ rfl).alloc _).below hb (by simp <;> omega)
 have x1 : Blk w1 (w.heap.size + 1) 24 #[.bool (rd q).neg, .slice A' n' c', .slice D' m' e'] := (blkAt _ _ _ (by simp)).below hb (by simp)
 have c02 : w1.cell? ⟨w.heap.size, 2, none⟩ = some (.slice D m e) := x0.cell 2
 have c12 : w1.cell? ⟨w.heap.size + 1, 2, none⟩ = some (.slice D' m' e') := x1.cell 2
 clear hb
 go_wp2_with fail
 (with_reducible refine (b_words _ D m e (rd q).den ?_ D' m' e' ?_ ?_).mono ?_); (exact HD.out.1.belw q1); (exact HD.out.2.belw q1); (omega); rintro e w2 ⟨rfl, hb2⟩
 go_wp2_with fail
 go_ret
 exact ⟨rfl, q1.trans (hb2.mono q1.size)⟩
end Go.Proofs.YtkpjhmpjihchpaaGreatDoor

namespace Go.Proofs.YtkpjhmpjihchpaaGreatDoor
open Go Go.RowKit Bn
attribute [local go_sem ↓] Go.wp_at_zero Go.wp_at_succ
theorem b_rat2 (w : World) (b : Bool) (A : Option Addr) (n c : Nat) (D : Option Addr) (m e : Nat) (q : Rat) (k : Nat) (h : QV w b A n c D m e q k) (b' : Bool) (A' : Option Addr) (n' c' : Nat) (D' : Option Addr) (m' e' : Nat) (q' : Rat) (k' : Nat) (h' : QV w b' A' n' c' D' m' e' q' k') (he : q = q') (hk : k ≤ 1000000) : Calls Tryz.prog 80 #[.agg #[.bool b, .slice A n c, .slice D m e], .agg #[.bool b', .slice A' n' c', .slice D' m' e']] w (RetV w (.bool true)) := by
  subst he; exact b_rat w b A n c D m e b' A' n' c' D' m' e' q k k' h h' hk
theorem rs_same (w : World) (b : Bool) (A : Option Addr) (n c : Nat) (D : Option Addr) (m e : Nat) (q : Rat) (k : Nat) (h : QV w b A n c D m e q k) (b' : Bool) (A' : Option Addr) (n' c' : Nat) (D' : Option Addr) (m' e' : Nat) (q' : Rat) (k' : Nat) (h' : QV w b' A' n' c' D' m' e' q' k') (he : q = q') (hk : k ≤ 1000000) :
  Calls Tryz.prog 33 #[.agg #[.bool b, .slice A n c, .slice D m e], .agg #[.bool b', .slice A' n' c', .slice D' m' e']] w (RetV w (.bool true)) := by
 have HE := Lib.hid he
 clear he
 go_enter Tryz.func33, Tryz.ntmps33
 go_wp2_with fail
 (with_reducible refine (b_rat2 _ b A n c D m e (q) (k) ?_ b' A' n' c' D' m' e' (q') (k') ?_ ?_ ?_).mono ?_); (exact (h.belw (((Below.refl _ _).alloc (Nat.le_refl _) _).alloc (by simp) _))); (exact (h'.belw (((Below.refl _ _).alloc (Nat.le_refl _) _).alloc (by simp) _))); (exact HE.out); (omega); rintro e w1 ⟨rfl, hb1⟩
 have q1 := (((Below.refl _ _).alloc (Nat.le_refl _) _).alloc (by simp) _).trans (hb1.mono (by simp <;> omega))
 replace h := h.belw q1
 replace h' := h'.belw q1
 have x1a : Blk w1 w.heap.size 24 #[.bool b, .slice A n c, .slice D m e] := ((blkAt _ _ _ (by simp)).alloc _).below hb1 (by simp <;> omega)
 have x1b := (blkAt _ _ _ (g := w.heap.size + 1) (by simp)).below hb1 (by simp)
 have bw1 := (brefl w).trans (q1.mono (brefl w).size)
 have lw1 : w.heap.size + 2 ≤ w1.heap.size := by have := hb1.size; simp at this; omega
 clear q1
 go_wp2_with fail
 go_ret
 exact retB rfl bw1
end Go.Proofs.YtkpjhmpjihchpaaGreatDoor

namespace Go.Proofs.YtkpjhmpjihchpaaGreatDoor
open Go Go.RowKit Bn
attribute [local go_sem ↓] Go.wp_at_zero Go.wp_at_succ
theorem QZ.short2 {w : World} {b : Bool} {A D : Option Addr} {n c m e k : Nat} {q : Rat} (h : QZ w b A n c D m e q k) (hs : n ≤ 12 ∧ m ≤ 12) : QZ w b A n c D m e q 12 := by
  obtain ⟨a, h, e⟩ := h
  exact ⟨a, h.short2 hs, e⟩
end Go.Proofs.YtkpjhmpjihchpaaGreatDoor

/- Walks: fractions, by value. -/
namespace Go.Proofs.YtkpjhmpjihchpaaGreatDoor
open Go Go.RowKit Bn
attribute [local go_sem ↓] Go.wp_at_zero Go.wp_at_succ
theorem RetFe.mono {w w' : World} {v : Value} {q : Rat} {k j : Nat} {e : Ending} (h : RetFe w v q k e w') (hk : k ≤ j) : RetFe w v q j e w' := by
  obtain ⟨b, A, n, c, A', n', c', h1, h2, h3⟩ := h
  exact ⟨b, A, n, c, A', n', c', h1, h2.mono hk, h3⟩
theorem RetF.mono {w w' : World} {q : Rat} {k j : Nat} {e : Ending} (h : RetF w q k e w') (hk : k ≤ j) : RetF w q j e w' := by
  obtain ⟨b, A, n, c, A', n', c', h1, h2, h3⟩ := h
  exact ⟨b, A, n, c, A', n', c', h1, h2.mono hk, h3⟩
def minQ (a b : Rat) : Rat := if rcmp a b ≤ 0 then a else b
def maxQ (a b : Rat) : Rat := if 0 ≤ rcmp a b then a else b
def divX (b : Rat) : Int := if b = 0 then 8 else 0
inductive PowOut (q : Rat) (x y : Int) (v : Rat) : Prop
  | lo (h : x < -64) (hy : y = 3) (hv : v = 0)
  | hi (h : 64 < x) (hy : y = 3) (hv : v = 0)
  | pos (N : Nat) (h : x = (N : Int)) (h2 : N ≤ 64) (hy : y = 0) (hv : v = powQ q N)
  | inv (N : Nat) (h : x = -(N : Int)) (h2 : N ≤ 64) (h3 : 0 < N) (h4 : q ≠ 0) (hy : y = 0) (hv : v = 1 / powQ q N)
  | zro (N : Nat) (h : x = -(N : Int)) (h2 : N ≤ 64) (h3 : 0 < N) (h4 : q = 0) (hy : y = 8) (hv : v = 0)
inductive GridOut (q : Rat) (x y : Int) (v : Rat) : Prop
  | lo (h : x < 0) (hy : y = 3) (hv : v = 0)
  | hi (h : 256 < x) (hy : y = 3) (hv : v = 0)
  | ok (N : Nat) (h : x = (N : Int)) (h2 : N ≤ 256) (hy : y = 0) (hv : v = gridQ q N)
theorem f_abs_v (w : World) (b : Bool) (A : Option Addr) (n c : Nat) (D : Option Addr) (m e : Nat) (q : Rat) (k : Nat) (h : QZ w b A n c D m e q k) (h0 : 0 < k) (hk : k ≤ 10000000) : Calls Tryz.prog 58 #[.agg #[.bool b, .slice A n c, .slice D m e]] w (RetF w (absQ q) (k + 2)) := by
  unfold absQ
  rcases Int.lt_trichotomy q.num 0 with x | x | x
  · rw [if_pos x]; exact f_abs_n w b A n c D m e q k h h0 (by omega) (Int.sign_eq_neg_one_of_neg x)
  · rw [if_neg (by omega)]; exact f_abs_z w b A n c D m e q k h h0 (by omega) (by rw [x]; rfl)
  · rw [if_neg (by omega)]; exact f_abs_p w b A n c D m e q k h h0 (by omega) (Int.sign_eq_one_of_pos x)
theorem f_min_v (w : World) (b : Bool) (A : Option Addr) (n c : Nat) (D : Option Addr) (m e : Nat) (q : Rat) (k : Nat) (h : QZ w b A n c D m e q k) (b' : Bool) (A' : Option Addr) (n' c' : Nat) (D' : Option Addr) (m' e' : Nat) (q' : Rat) (k' : Nat) (h' : QZ w b' A' n' c' D' m' e' q' k') (h0 : 0 < k) (hk : k ≤ 10000000) (h0' : 0 < k') (hk' : k' ≤ 10000000) : Calls Tryz.prog 70 #[.agg #[.bool b, .slice A n c, .slice D m e], .agg #[.bool b', .slice A' n' c', .slice D' m' e']] w (RetF w (minQ q q') (k + k' + 2)) := by
  unfold minQ
  rcases rcmp_cases q q' with ⟨_, x⟩ | ⟨_, x⟩ | ⟨_, x⟩
  · rw [if_pos (by omega)]; exact (f_min_l w b A n c D m e q k h b' A' n' c' D' m' e' q' k' h' h0 (by omega) h0' (by omega) x).mono fun _ _ r => r.mono (by omega)
  · rw [if_pos (by omega)]; exact (f_min_e w b A n c D m e q k h b' A' n' c' D' m' e' q' k' h' h0 (by omega) h0' (by omega) x).mono fun _ _ r => r.mono (by omega)
  · rw [if_neg (by omega)]; exact (f_min_g w b A n c D m e q k h b' A' n' c' D' m' e' q' k' h' h0 (by omega) h0' (by omega) x).mono fun _ _ r => r.mono (by omega)
theorem f_max_v (w : World) (b : Bool) (A : Option Addr) (n c : Nat) (D : Option Addr) (m e : Nat) (q : Rat) (k : Nat) (h : QZ w b A n c D m e q k) (b' : Bool) (A' : Option Addr) (n' c' : Nat) (D' : Option Addr) (m' e' : Nat) (q' : Rat) (k' : Nat) (h' : QZ w b' A' n' c' D' m' e' q' k') (h0 : 0 < k) (hk : k ≤ 10000000) (h0' : 0 < k') (hk' : k' ≤ 10000000) : Calls Tryz.prog 72 #[.agg #[.bool b, .slice A n c, .slice D m e], .agg #[.bool b', .slice A' n' c', .slice D' m' e']] w (RetF w (maxQ q q') (k + k' + 2)) := by
  unfold maxQ
  rcases rcmp_cases q q' with ⟨_, x⟩ | ⟨_, x⟩ | ⟨_, x⟩
  · rw [if_neg (by omega)]; exact (f_max_l w b A n c D m e q k h b' A' n' c' D' m' e' q' k' h' h0 (by omega) h0' (by omega) x).mono fun _ _ r => r.mono (by omega)
  · rw [if_pos (by omega)]; exact (f_max_e w b A n c D m e q k h b' A' n' c' D' m' e' q' k' h' h0 (by omega) h0' (by omega) x).mono fun _ _ r => r.mono (by omega)
  · rw [if_pos (by omega)]; exact (f_max_g w b A n c D m e q k h b' A' n' c' D' m' e' q' k' h' h0 (by omega) h0' (by omega) x).mono fun _ _ r => r.mono (by omega)
theorem f_div_v (w : World) (b : Bool) (A : Option Addr) (n c : Nat) (D : Option Addr) (m e : Nat) (q : Rat) (k : Nat) (h : QZ w b A n c D m e q k) (b' : Bool) (A' : Option Addr) (n' c' : Nat) (D' : Option Addr) (m' e' : Nat) (q' : Rat) (k' : Nat) (h' : QZ w b' A' n' c' D' m' e' q' k') (h0 : 0 < k) (hk : k ≤ 10000000) (h0' : 0 < k') (hk' : k' ≤ 10000000) (x : Int) (hx : divX q' = x) : Calls Tryz.prog 56 #[.agg #[.bool b, .slice A n c, .slice D m e], .agg #[.bool b', .slice A' n' c', .slice D' m' e']] w (RetFe w (errV x) (q / q') (k + k')) := by
  subst hx
  unfold divX
  by_cases hz : q' = 0
  · rw [if_pos hz]
    have := f_div_0 w b A n c D m e q k h b' A' n' c' D' m' e' q' k' h' h0 (by omega) h0' (by omega) hz
    rw [hz, show q / 0 = 0 by rw [Rat.div_def, Rat.inv_zero, Rat.mul_zero]]
    exact this.mono fun _ _ r => RetFe.mono (by first | exact r | (rw [show errV 8 = _ from rfl]; exact r)) (by omega)
  · rw [if_neg hz, errV_0]
    exact f_div w b A n c D m e q k h b' A' n' c' D' m' e' q' k' h' h0 (by omega) h0' (by omega) hz
theorem g_abs_v (w : World) (b : Bool) (A : Option Addr) (n c : Nat) (D : Option Addr) (m e : Nat) (q : Rat) (k : Nat) (h : QZ w b A n c D m e q k) (h0 : 0 < k) (hk : k ≤ 10000000) : Calls Tryz.prog 64 #[.agg #[.bool b, .slice A n c, .slice D m e]] w (RetF w (absQ q) (k + 2)) := by
  unfold absQ
  rcases Int.lt_trichotomy q.num 0 with x | x | x
  · rw [if_pos x]; exact g_abs_n w b A n c D m e q k h h0 (by omega) (Int.sign_eq_neg_one_of_neg x)
  · rw [if_neg (by omega)]; exact g_abs_z w b A n c D m e q k h h0 (by omega) (by rw [x]; rfl)
  · rw [if_neg (by omega)]; exact g_abs_p w b A n c D m e q k h h0 (by omega) (Int.sign_eq_one_of_pos x)
theorem g_min_v (w : World) (b : Bool) (A : Option Addr) (n c : Nat) (D : Option Addr) (m e : Nat) (q : Rat) (k : Nat) (h : QZ w b A n c D m e q k) (b' : Bool) (A' : Option Addr) (n' c' : Nat) (D' : Option Addr) (m' e' : Nat) (q' : Rat) (k' : Nat) (h' : QZ w b' A' n' c' D' m' e' q' k') (h0 : 0 < k) (hk : k ≤ 10000000) (h0' : 0 < k') (hk' : k' ≤ 10000000) : Calls Tryz.prog 71 #[.agg #[.bool b, .slice A n c, .slice D m e], .agg #[.bool b', .slice A' n' c', .slice D' m' e']] w (RetF w (minQ q q') (k + k' + 2)) := by
  unfold minQ
  rcases rcmp_cases q q' with ⟨_, x⟩ | ⟨_, x⟩ | ⟨_, x⟩
  · rw [if_pos (by omega)]; exact (g_min_l w b A n c D m e q k h b' A' n' c' D' m' e' q' k' h' h0 (by omega) h0' (by omega) x).mono fun _ _ r => r.mono (by omega)
  · rw [if_pos (by omega)]; exact (g_min_e w b A n c D m e q k h b' A' n' c' D' m' e' q' k' h' h0 (by omega) h0' (by omega) x).mono fun _ _ r => r.mono (by omega)
  · rw [if_neg (by omega)]; exact (g_min_g w b A n c D m e q k h b' A' n' c' D' m' e' q' k' h' h0 (by omega) h0' (by omega) x).mono fun _ _ r => r.mono (by omega)
theorem g_max_v (w : World) (b : Bool) (A : Option Addr) (n c : Nat) (D : Option Addr) (m e : Nat) (q : Rat) (k : Nat) (h : QZ w b A n c D m e q k) (b' : Bool) (A' : Option Addr) (n' c' : Nat) (D' : Option Addr) (m' e' : Nat) (q' : Rat) (k' : Nat) (h' : QZ w b' A' n' c' D' m' e' q' k') (h0 : 0 < k) (hk : k ≤ 10000000) (h0' : 0 < k') (hk' : k' ≤ 10000000) : Calls Tryz.prog 73 #[.agg #[.bool b, .slice A n c, .slice D m e], .agg #[.bool b', .slice A' n' c', .slice D' m' e']] w (RetF w (maxQ q q') (k + k' + 2)) := by
  unfold maxQ
  rcases rcmp_cases q q' with ⟨_, x⟩ | ⟨_, x⟩ | ⟨_, x⟩
  · rw [if_neg (by omega)]; exact (g_max_l w b A n c D m e q k h b' A' n' c' D' m' e' q' k' h' h0 (by omega) h0' (by omega) x).mono fun _ _ r => r.mono (by omega)
  · rw [if_pos (by omega)]; exact (g_max_e w b A n c D m e q k h b' A' n' c' D' m' e' q' k' h' h0 (by omega) h0' (by omega) x).mono fun _ _ r => r.mono (by omega)
  · rw [if_pos (by omega)]; exact (g_max_g w b A n c D m e q k h b' A' n' c' D' m' e' q' k' h' h0 (by omega) h0' (by omega) x).mono fun _ _ r => r.mono (by omega)
theorem g_div_v (w : World) (b : Bool) (A : Option Addr) (n c : Nat) (D : Option Addr) (m e : Nat) (q : Rat) (k : Nat) (h : QZ w b A n c D m e q k) (b' : Bool) (A' : Option Addr) (n' c' : Nat) (D' : Option Addr) (m' e' : Nat) (q' : Rat) (k' : Nat) (h' : QZ w b' A' n' c' D' m' e' q' k') (h0 : 0 < k) (hk : k ≤ 10000000) (h0' : 0 < k') (hk' : k' ≤ 10000000) (x : Int) (hx : divX q' = x) : Calls Tryz.prog 61 #[.agg #[.bool b, .slice A n c, .slice D m e], .agg #[.bool b', .slice A' n' c', .slice D' m' e']] w (RetFe w (.int .i64 x) (q / q') (k + k')) := by
  subst hx
  unfold divX
  by_cases hz : q' = 0
  · rw [if_pos hz]
    have := g_div_0 w b A n c D m e q k h b' A' n' c' D' m' e' q' k' h' h0 (by omega) h0' (by omega) hz
    rw [hz, show q / 0 = 0 by rw [Rat.div_def, Rat.inv_zero, Rat.mul_zero]]
    exact this.mono fun _ _ r => RetFe.mono (by first | exact r | (rw [show errV 8 = _ from rfl]; exact r)) (by omega)
  · rw [if_neg hz]
    exact g_div w b A n c D m e q k h b' A' n' c' D' m' e' q' k' h' h0 (by omega) h0' (by omega) hz
end Go.Proofs.YtkpjhmpjihchpaaGreatDoor

/- Walks: FractionComputes. -/
namespace Go.Proofs.YtkpjhmpjihchpaaGreatDoor
open Go Go.RowKit Bn
attribute [local go_sem ↓] Go.wp_at_zero Go.wp_at_succ
theorem l_FractionComputes (w : World) (b : Bool) (A : Option Addr) (n c : Nat) (D : Option Addr) (m e : Nat) (q : Rat) (k : Nat) (H : QZ w b A n c D m e q k) (b' : Bool) (A' : Option Addr) (n' c' : Nat) (D' : Option Addr) (m' e' : Nat) (q' : Rat) (k' : Nat) (H' : QZ w b' A' n' c' D' m' e' q' k') (htab : Tab w) (hmx : Mx w) :
    Calls Tryz.prog 11 #[.agg #[.bool b, .slice A n c, .slice D m e], .agg #[.bool b', .slice A' n' c', .slice D' m' e']] w (RetV w (.bool true)) := by
  go_enter Tryz.func11, Tryz.ntmps11
  go_wp2_with fail
  (with_reducible refine (l2_short _ (w.heap.size + 1 + 1) 2 (fun i : Nat => if i = 0 then n else n') (fun i : Nat => if i = 0 then m else m') ?_ ?_).mono ?_); (exact rsq2 (blkAt _ _ _ (by simp))); (decide); rintro e w1 ⟨r1, rfl, hr1, hb1⟩
  have q1 := ((((Below.refl _ _).alloc (Nat.le_refl _) _).alloc (by simp) _).alloc (by simp <;> omega) _).trans (hb1.mono (by simp <;> omega))
  replace H := H.belw q1
  replace H' := H'.belw q1
  have x1a : Blk w1 w.heap.size 24 #[.bool b, .slice A n c, .slice D m e] := (((blkAt _ _ _ (by simp)).alloc _).alloc _).below hb1 (by simp <;> omega)
  have x1b := ((blkAt _ _ _ (g := w.heap.size + 1) (by simp)).alloc _).below hb1 (by simp <;> omega)
  have x1c := (blkAt _ _ _ (g := w.heap.size + 1 + 1) (by simp)).below hb1 (by simp)
  have bw1 := (brefl w).trans (q1.mono (brefl w).size)
  have lw1 : w.heap.size + 3 ≤ w1.heap.size := by have := hb1.size; simp at this; omega
  clear q1
  cases r1
  · clear hr1
    go_wp2_with fail
    (with_reducible refine (l2_awake _  ?_ ?_).mono ?_); (exact htab.belw bw1); (exact hmx.belw bw1); rintro e w2 ⟨rfl, q2⟩
    replace H := H.belw q2
    replace H' := H'.belw q2
    replace x1a := x1a.b q2
    replace x1b := x1b.b q2
    replace x1c := x1c.b q2
    have bw2 := bw1.trans (q2.mono bw1.size)
    have lw2 := q2.size
    clear q2 bw1
    go_wp2_with fail
    go_ret
    exact retB rfl bw2
  · replace H := QZ.short2 H (hr1 rfl 0 (by decide))
    replace H' := QZ.short2 H' (hr1 rfl 1 (by decide))
    clear hr1
    go_wp2_with fail
    (with_reducible refine (l2_awake _  ?_ ?_).mono ?_); (exact htab.belw bw1); (exact hmx.belw bw1); rintro e w2 ⟨rfl, q2⟩
    replace H := H.belw q2
    replace H' := H'.belw q2
    replace x1a := x1a.b q2
    replace x1b := x1b.b q2
    replace x1c := x1c.b q2
    have bw2 := bw1.trans (q2.mono bw1.size)
    have lw2 := q2.size
    clear q2 bw1
    obtain ⟨cx1aa, cx1ab, cx1ac⟩ := x1a.c3
    obtain ⟨lx1aa, lx1ab, lx1ac, lx1ad⟩ := lts0 x1a.lt
    obtain ⟨cx1ba, cx1bb, cx1bc⟩ := x1b.c3
    obtain ⟨lx1ba, lx1bb, lx1bc, lx1bd⟩ := lts1 x1b.lt
    go_wp2_with fail
    obtain ⟨x, hx⟩ : ∃ x, divX q' = x := ⟨_, rfl⟩
    obtain ⟨u, hu⟩ : ∃ u, rcmp q q' = u := ⟨_, rfl⟩
    obtain ⟨s, hs⟩ : ∃ s, q.num.sign = s := ⟨_, rfl⟩
    have HX := Lib.hid hx
    have HU := Lib.hid hu
    have HS := Lib.hid hs
    clear hx hu hs
    (with_reducible refine (f_div_v _ b A n c D m e (q) (12) ?_ b' A' n' c' D' m' e' (q') (12) ?_ (by decide) (by decide) (by decide) (by decide) x HX.out).mono ?_); (exact H); (exact H'); rintro e w3 ⟨b3, A3, n3, c3, A'3, n'3, c'3, rfl, h3, q3⟩
    clear cx1aa cx1ab cx1ac lx1aa lx1ab lx1ac lx1ad cx1ba cx1bb cx1bc lx1ba lx1bb lx1bc lx1bd
    replace H := H.belw q3
    replace H' := H'.belw q3
    replace x1a := x1a.b q3
    replace x1b := x1b.b q3
    replace x1c := x1c.b q3
    have bw3 := bw2.trans (q3.mono bw2.size)
    have lw3 := q3.size
    clear q3 bw2
    obtain ⟨cx1aa, cx1ab, cx1ac⟩ := x1a.c3
    obtain ⟨lx1aa, lx1ab, lx1ac, lx1ad⟩ := lts0 x1a.lt
    obtain ⟨cx1ba, cx1bb, cx1bc⟩ := x1b.c3
    obtain ⟨lx1ba, lx1bb, lx1bc, lx1bd⟩ := lts1 x1b.lt
    go_wp2_with fail
    (with_reducible refine (g_div_v _ b A n c D m e (q) (12) ?_ b' A' n' c' D' m' e' (q') (12) ?_ (by decide) (by decide) (by decide) (by decide) x HX.out).mono ?_); (exact (H.belw ((Below.refl _ _).alloc (Nat.le_refl _) _))); (exact (H'.belw ((Below.refl _ _).alloc (Nat.le_refl _) _))); rintro e w4 ⟨b4, A4, n4, c4, A'4, n'4, c'4, rfl, h4, hb4⟩
    clear cx1aa cx1ab cx1ac lx1aa lx1ab lx1ac lx1ad cx1ba cx1bb cx1bc lx1ba lx1bb lx1bc lx1bd
    have q4 := ((Below.refl _ _).alloc (Nat.le_refl _) _).trans (hb4.mono (by simp))
    replace H := H.belw q4
    replace H' := H'.belw q4
    replace h3 := h3.belw q4
    replace x1a := x1a.b q4
    replace x1b := x1b.b q4
    replace x1c := x1c.b q4
    have x4a : Blk w4 w3.heap.size 24 #[.bool b3, .slice A3 n3 c3, .slice A'3 n'3 c'3] := (blkAt _ _ _ (by simp)).below hb4 (by simp)
    have bw4 := bw3.trans (q4.mono bw3.size)
    have lw4 : w3.heap.size + 1 ≤ w4.heap.size := by have := hb4.size; simp at this; omega
    clear q4 bw3
    go_wp2_with fail
    have p5 := ((Kp.refl w4).alloc (.cells #[.bool b4, .slice A4 n4 c4, .slice A'4 n'4 c'4] 24))
    have bw5 := (bw4.alloc (by first | omega | (simp <;> omega)) (.cells #[.bool b4, .slice A4 n4 c4, .slice A'4 n'4 c'4] 24))
    have x5a : Blk (w4.alloc (.cells #[.bool b4, .slice A4 n4 c4, .slice A'4 n'4 c'4] 24)) w4.heap.size 24 #[.bool b4, .slice A4 n4 c4, .slice A'4 n'4 c'4] := (blkAt _ _ _ (by simp))
    replace x1a := (x1a.alloc (.cells #[.bool b4, .slice A4 n4 c4, .slice A'4 n'4 c'4] 24))
    replace x1b := (x1b.alloc (.cells #[.bool b4, .slice A4 n4 c4, .slice A'4 n'4 c'4] 24))
    replace x1c := (x1c.alloc (.cells #[.bool b4, .slice A4 n4 c4, .slice A'4 n'4 c'4] 24))
    replace x4a := (x4a.alloc (.cells #[.bool b4, .slice A4 n4 c4, .slice A'4 n'4 c'4] 24))
    have lw5 : w4.heap.size + 1 ≤ (w4.alloc (.cells #[.bool b4, .slice A4 n4 c4, .slice A'4 n'4 c'4] 24)).heap.size := by simp
    generalize hE5 : (w4.alloc (.cells #[.bool b4, .slice A4 n4 c4, .slice A'4 n'4 c'4] 24)) = w5 at p5 bw5 lw5 x5a x1a x1b x1c x4a ⊢
    clear hE5
    replace H := H.keep p5
    replace H' := H'.keep p5
    replace h3 := h3.keep p5
    replace h4 := h4.keep p5
    clear bw4
    obtain ⟨cx1aa, cx1ab, cx1ac⟩ := x1a.c3
    obtain ⟨lx1aa, lx1ab, lx1ac, lx1ad⟩ := lts0 x1a.lt
    obtain ⟨cx1ba, cx1bb, cx1bc⟩ := x1b.c3
    obtain ⟨lx1ba, lx1bb, lx1bc, lx1bd⟩ := lts1 x1b.lt
    obtain ⟨cx4aa, cx4ab, cx4ac⟩ := x4a.c3
    obtain ⟨lx4aa, lx4ab, lx4ac, lx4ad⟩ := lts0 x4a.lt
    obtain ⟨cx5aa, cx5ab, cx5ac⟩ := x5a.c3
    obtain ⟨lx5aa, lx5ab, lx5ac, lx5ad⟩ := lts0 x5a.lt
    refine wp_region_lin (B := w.heap.size) (fr := fun xf => ⟨List.toArray (.agg #[.bool b, .slice A n c, .slice D m e] :: .agg #[.bool b', .slice A' n' c', .slice D' m' e'] :: .pointer (some ⟨w.heap.size, 0, none⟩) :: .pointer (some ⟨w.heap.size + 1, 0, none⟩) :: xf 84 :: .pointer (some ⟨w3.heap.size, 0, none⟩) :: errV x :: .pointer (some ⟨w4.heap.size, 0, none⟩) :: .int .i64 x :: .agg #[.bool b, .slice A n c, .slice D m e] :: .agg #[.bool b', .slice A' n' c', .slice D' m' e'] :: .slice (some ⟨w.heap.size + 1 + 1, 0, none⟩) 2 2 :: .bool true :: .bool false :: .bool false :: .bool true :: .bool false :: .bool false :: undef :: .tuple #[.agg #[.bool b3, .slice A3 n3 c3, .slice A'3 n'3 c'3], errV x] :: .agg #[.bool b, .slice A n c, .slice D m e] :: .agg #[.bool b', .slice A' n' c', .slice D' m' e'] :: .tuple #[.agg #[.bool b3, .slice A3 n3 c3, .slice A'3 n'3 c'3], errV x] :: .agg #[.bool b3, .slice A3 n3 c3, .slice A'3 n'3 c'3] :: errV x :: .tuple #[.agg #[.bool b4, .slice A4 n4 c4, .slice A'4 n'4 c'4], .int .i64 x] :: .agg #[.bool b, .slice A n c, .slice D m e] :: .agg #[.bool b', .slice A' n' c', .slice D' m' e'] :: .tuple #[.agg #[.bool b4, .slice A4 n4 c4, .slice A'4 n'4 c'4], .int .i64 x] :: .agg #[.bool b4, .slice A4 n4 c4, .slice A'4 n'4 c'4] :: .int .i64 x :: xf 0 :: xf 1 :: xf 2 :: xf 3 :: xf 4 :: xf 5 :: xf 6 :: xf 7 :: xf 8 :: xf 9 :: xf 10 :: xf 11 :: xf 12 :: xf 13 :: xf 14 :: xf 15 :: xf 16 :: xf 17 :: xf 18 :: xf 19 :: xf 20 :: xf 21 :: xf 22 :: xf 23 :: xf 24 :: xf 25 :: xf 26 :: xf 27 :: xf 28 :: xf 29 :: xf 30 :: xf 31 :: xf 32 :: xf 33 :: xf 34 :: xf 35 :: xf 36 :: xf 37 :: xf 38 :: xf 39 :: xf 40 :: xf 41 :: xf 42 :: xf 43 :: xf 44 :: xf 45 :: xf 46 :: xf 47 :: xf 48 :: xf 49 :: xf 50 :: xf 51 :: xf 52 :: xf 53 :: xf 54 :: xf 55 :: xf 56 :: xf 57 :: xf 58 :: xf 59 :: xf 60 :: xf 61 :: xf 62 :: xf 63 :: xf 64 :: xf 65 :: xf 66 :: xf 67 :: xf 68 :: xf 69 :: xf 70 :: xf 71 :: xf 72 :: xf 73 :: xf 74 :: xf 75 :: xf 76 :: xf 77 :: xf 78 :: xf 79 :: xf 80 :: xf 81 :: xf 82 :: xf 83 :: []), []⟩) (R := fun ri => List.getD ((PEq (.agg #[.bool b, .slice A n c, .slice D m e])) :: (VQ (-(q)) ((12))) :: (PEq (.agg #[.bool b, .slice A n c, .slice D m e])) :: (VQ (-(q)) ((12))) :: (PEq (.bool true)) :: (PEq (.bool true)) :: (PEq (.agg #[.bool b, .slice A n c, .slice D m e])) :: (VQ (absQ (q)) ((12) + 2)) :: (PEq (.agg #[.bool b, .slice A n c, .slice D m e])) :: (VQ (absQ (q)) ((12) + 2)) :: (PEq (.bool true)) :: (PEq (.bool true)) :: (PEq (.bool true)) :: (PEq (.agg #[.bool b, .slice A n c, .slice D m e])) :: (PEq (.int .i64 s)) :: (PEq (.agg #[.bool b, .slice A n c, .slice D m e])) :: (PEq (.int .i64 s)) :: (PEq (.bool true)) :: (PEq (.bool true)) :: (PEq (.bool true)) :: (PEq (.agg #[.bool b, .slice A n c, .slice D m e])) :: (PEq (.agg #[.bool b', .slice A' n' c', .slice D' m' e'])) :: (VQ ((q) + (q')) ((12) + (12) + 1)) :: (PEq (.agg #[.bool b, .slice A n c, .slice D m e])) :: (PEq (.agg #[.bool b', .slice A' n' c', .slice D' m' e'])) :: (VQ ((q) + (q')) ((12) + (12) + 1)) :: (PEq (.bool true)) :: (PEq (.bool true)) :: (PEq (.bool true)) :: (PEq (.agg #[.bool b, .slice A n c, .slice D m e])) :: (PEq (.agg #[.bool b', .slice A' n' c', .slice D' m' e'])) :: (VQ ((q) - (q')) ((12) + (12) + 1)) :: (PEq (.agg #[.bool b, .slice A n c, .slice D m e])) :: (PEq (.agg #[.bool b', .slice A' n' c', .slice D' m' e'])) :: (VQ ((q) - (q')) ((12) + (12) + 1)) :: (PEq (.bool true)) :: (PEq (.bool true)) :: (PEq (.bool true)) :: (PEq (.agg #[.bool b, .slice A n c, .slice D m e])) :: (PEq (.agg #[.bool b', .slice A' n' c', .slice D' m' e'])) :: (VQ ((q) * (q')) ((12) + (12))) :: (PEq (.agg #[.bool b, .slice A n c, .slice D m e])) :: (PEq (.agg #[.bool b', .slice A' n' c', .slice D' m' e'])) :: (VQ ((q) * (q')) ((12) + (12))) :: (PEq (.bool true)) :: (PEq (.bool true)) :: (PEq (.bool true)) :: (PEq (errV x)) :: (PEq (.int .i64 x)) :: (PEq (.int .i64 x)) :: (PEq (.bool true)) :: (PEq (.bool true)) :: (PEq (.bool true)) :: (PEq (.agg #[.bool b3, .slice A3 n3 c3, .slice A'3 n'3 c'3])) :: (PEq (.agg #[.bool b4, .slice A4 n4 c4, .slice A'4 n'4 c'4])) :: (PEq (.bool true)) :: (PEq (.bool true)) :: (PEq (.bool true)) :: (PEq (.agg #[.bool b, .slice A n c, .slice D m e])) :: (PEq (.agg #[.bool b', .slice A' n' c', .slice D' m' e'])) :: (PEq (.int .i64 u)) :: (PEq (.agg #[.bool b, .slice A n c, .slice D m e])) :: (PEq (.agg #[.bool b', .slice A' n' c', .slice D' m' e'])) :: (PEq (.int .i64 u)) :: (PEq (.bool true)) :: (PEq (.bool true)) :: (PEq (.bool true)) :: (PEq (.agg #[.bool b, .slice A n c, .slice D m e])) :: (PEq (.agg #[.bool b', .slice A' n' c', .slice D' m' e'])) :: (VQ (minQ (q) (q')) ((12) + (12) + 2)) :: (PEq (.agg #[.bool b, .slice A n c, .slice D m e])) :: (PEq (.agg #[.bool b', .slice A' n' c', .slice D' m' e'])) :: (VQ (minQ (q) (q')) ((12) + (12) + 2)) :: (PEq (.bool true)) :: (PEq (.bool true)) :: (PEq (.bool true)) :: (PEq (.agg #[.bool b, .slice A n c, .slice D m e])) :: (PEq (.agg #[.bool b', .slice A' n' c', .slice D' m' e'])) :: (VQ (maxQ (q) (q')) ((12) + (12) + 2)) :: (PEq (.agg #[.bool b, .slice A n c, .slice D m e])) :: (PEq (.agg #[.bool b', .slice A' n' c', .slice D' m' e'])) :: (VQ (maxQ (q) (q')) ((12) + (12) + 2)) :: (PEq (.bool true)) :: (PEq (.bool true)) :: (PEq (.bool true)) :: []) ri (fun _ _ => True)) (es := []) (ow := [⟨w.heap.size, 85, 0, 24, #[.bool b, .slice A n c, .slice D m e], CAny⟩, ⟨w.heap.size + 1, 85, 0, 24, #[.bool b', .slice A' n' c', .slice D' m' e'], CAny⟩, ⟨w.heap.size + 1 + 1, 85, 0, 24, #[.bool b, .slice A n c, .slice D m e, .bool b', .slice A' n' c', .slice D' m' e'], CAny⟩, ⟨w3.heap.size, 85, 0, 24, #[.bool b3, .slice A3 n3 c3, .slice A'3 n'3 c'3], CAny⟩, ⟨w4.heap.size, 85, 0, 24, #[.bool b4, .slice A4 n4 c4, .slice A'4 n'4 c'4], CAny⟩]) (x0 := (upd (fun _ => undef) 84 (.bool false))) (by kernel_rfl)
      (each_of ⟨fun _ _ => rfl, fun _ _ => rfl, fun _ _ => rfl, fun _ _ => rfl, fun _ _ => rfl, fun _ _ => rfl, fun _ _ => rfl, fun _ _ => rfl, fun _ _ => rfl, fun _ _ => rfl, fun _ _ => rfl, fun _ _ => rfl, fun _ _ => rfl, fun _ _ => rfl, fun _ _ => rfl, fun _ _ => rfl, fun _ _ => rfl, fun _ _ => rfl, fun _ _ => rfl, fun _ _ => rfl, fun _ _ => rfl, fun _ _ => rfl, fun _ _ => rfl, fun _ _ => rfl, fun _ _ => rfl, fun _ _ => rfl, fun _ _ => rfl, fun _ _ => rfl, fun _ _ => rfl, fun _ _ => rfl, fun _ _ => rfl, fun _ _ => rfl, fun _ _ => rfl, fun _ _ => rfl, fun _ _ => rfl, fun _ _ => rfl, fun _ _ => rfl, fun _ _ => rfl, fun _ _ => rfl, fun _ _ => rfl, fun _ _ => rfl, fun _ _ => rfl, fun _ _ => rfl, fun _ _ => rfl, fun _ _ => rfl, fun _ _ => rfl, fun _ _ => rfl, fun _ _ => rfl, fun _ _ => rfl, fun _ _ => rfl, fun _ _ => rfl, fun _ _ => rfl, fun _ _ => rfl, fun _ _ => rfl, fun _ _ => rfl, fun _ _ => rfl, fun _ _ => rfl, fun _ _ => rfl, fun _ _ => rfl, fun _ _ => rfl, fun _ _ => rfl, fun _ _ => rfl, fun _ _ => rfl, fun _ _ => rfl, fun _ _ => rfl, fun _ _ => rfl, fun _ _ => rfl, fun _ _ => rfl, fun _ _ => rfl, fun _ _ => rfl, fun _ _ => rfl, fun _ _ => rfl, fun _ _ => rfl, fun _ _ => rfl, fun _ _ => rfl, fun _ _ => rfl, fun _ _ => rfl, fun _ _ => rfl, fun _ _ => rfl, fun _ _ => rfl, fun _ _ => rfl, fun _ _ => rfl, fun _ _ => rfl, fun _ _ => rfl, fun _ _ => rfl, trivial⟩) (each_of (acyc_from _ 0 (by kernel_rfl))) (AllStab.get _ ⟨stEq _, stQ _ _, stEq _, stQ _ _, stEq _, stEq _, stEq _, stQ _ _, stEq _, stQ _ _, stEq _, stEq _, stEq _, stEq _, stEq _, stEq _, stEq _, stEq _, stEq _, stEq _, stEq _, stEq _, stQ _ _, stEq _, stEq _, stQ _ _, stEq _, stEq _, stEq _, stEq _, stEq _, stQ _ _, stEq _, stEq _, stQ _ _, stEq _, stEq _, stEq _, stEq _, stEq _, stQ _ _, stEq _, stEq _, stQ _ _, stEq _, stEq _, stEq _, stEq _, stEq _, stEq _, stEq _, stEq _, stEq _, stEq _, stEq _, stEq _, stEq _, stEq _, stEq _, stEq _, stEq _, stEq _, stEq _, stEq _, stEq _, stEq _, stEq _, stEq _, stEq _, stQ _ _, stEq _, stEq _, stQ _ _, stEq _, stEq _, stEq _, stEq _, stEq _, stQ _ _, stEq _, stEq _, stQ _ _, stEq _, stEq _, stEq _, trivial⟩)
      (fun _ h => nomatch h) (List.forall_mem_cons.2 ⟨scAny, List.forall_mem_cons.2 ⟨scAny, List.forall_mem_cons.2 ⟨scAny, List.forall_mem_cons.2 ⟨scAny, List.forall_mem_cons.2 ⟨scAny, fun _ h => nomatch h⟩⟩⟩⟩⟩) (fun _ h => nomatch h) bw5.size
      (List.forall_mem_cons.2 ⟨⟨x1a, by show w.heap.size ≤ w.heap.size; omega⟩, List.forall_mem_cons.2 ⟨⟨x1b, by show w.heap.size ≤ w.heap.size + 1; omega⟩, List.forall_mem_cons.2 ⟨⟨x1c, by show w.heap.size ≤ w.heap.size + 1 + 1; omega⟩, List.forall_mem_cons.2 ⟨⟨x4a, by show w.heap.size ≤ w3.heap.size; omega⟩, List.forall_mem_cons.2 ⟨⟨x5a, by show w.heap.size ≤ w4.heap.size; omega⟩, fun _ h => nomatch h⟩⟩⟩⟩⟩) (ownDist (by simp <;> omega))
      (each_of ⟨?_, ?_, ?_, ?_, ?_, ?_, ?_, ?_, ?_, ?_, ?_, ?_, ?_, ?_, ?_, ?_, ?_, ?_, ?_, ?_, ?_, ?_, ?_, ?_, ?_, ?_, ?_, ?_, ?_, ?_, ?_, ?_, ?_, ?_, ?_, ?_, ?_, ?_, ?_, ?_, ?_, ?_, ?_, ?_, ?_, ?_, ?_, ?_, ?_, ?_, ?_, ?_, ?_, ?_, ?_, ?_, ?_, ?_, ?_, ?_, ?_, ?_, ?_, ?_, ?_, ?_, ?_, ?_, ?_, ?_, ?_, ?_, ?_, ?_, ?_, ?_, ?_, ?_, ?_, ?_, ?_, ?_, ?_, ?_, ?_, trivial⟩) ?_
    · exact .inl ⟨by simp, by simp, fun xf wq hk hbl hd K hK => by
        have y : Blk wq w.heap.size 24 #[.bool b, .slice A n c, .slice D m e] := hbl _ (List.Mem.head _) (by simp [Region.binds])
        obtain ⟨hcl0, hcl1, hcl2⟩ := y.c3
        (try dsimp only)
        go_simp
        exact hK.out (.agg #[.bool b, .slice A n c, .slice D m e]) _ rfl (brefl _)⟩
    · exact .inl ⟨by simp, by simp, fun xf wq hk hbl hd K hK => by
        have dq0 : xf 0 = .agg #[.bool b, .slice A n c, .slice D m e] := hd ⟨0, .data⟩ (by simp) rfl
        (try dsimp only); (try simp only [dq0])
        go_simp
        go_at_call 62
        (with_reducible refine (f_neg _ b A n c D m e (q) (12) ?_ ?_ ?_).mono ?_); (exact (H.keep hk)); (first | omega | decide | assumption); (first | omega | decide | assumption); rintro e wr ⟨b7, A7, n7, c7, A'7, n'7, c'7, rfl, h7, hbr⟩
        have hz := hK.out _ _ ⟨b7, A7, n7, c7, A'7, n'7, c'7, rfl, h7⟩ hbr
        simp only [dq0] at hz
        exact hz⟩
    · exact .inl ⟨by simp, by simp, fun xf wq hk hbl hd K hK => by
        have y : Blk wq w.heap.size 24 #[.bool b, .slice A n c, .slice D m e] := hbl _ (List.Mem.head _) (by simp [Region.binds])
        obtain ⟨hcl0, hcl1, hcl2⟩ := y.c3
        (try dsimp only)
        go_simp
        exact hK.out (.agg #[.bool b, .slice A n c, .slice D m e]) _ rfl (brefl _)⟩
    · exact .inl ⟨by simp, by simp, fun xf wq hk hbl hd K hK => by
        have dq2 : xf 2 = .agg #[.bool b, .slice A n c, .slice D m e] := hd ⟨2, .data⟩ (by simp) rfl
        (try dsimp only); (try simp only [dq2])
        go_simp
        go_at_call 63
        (with_reducible refine (g_neg _ b A n c D m e (q) (12) ?_ ?_ ?_).mono ?_); (exact (H.keep hk)); (first | omega | decide | assumption); (first | omega | decide | assumption); rintro e wr ⟨b8, A8, n8, c8, A'8, n'8, c'8, rfl, h8, hbr⟩
        have hz := hK.out _ _ ⟨b8, A8, n8, c8, A'8, n'8, c'8, rfl, h8⟩ hbr
        simp only [dq2] at hz
        exact hz⟩
    · exact .inl ⟨by simp, by simp, fun xf wq hk hbl hd K hK => by
        obtain ⟨b7, A7, n7, c7, A'7, n'7, c'7, dq1, h7⟩ : VQ (-(q)) ((12)) (xf 1) wq := hd ⟨1, .data⟩ (by simp) rfl
        obtain ⟨b8, A8, n8, c8, A'8, n'8, c'8, dq3, h8⟩ : VQ (-(q)) ((12)) (xf 3) wq := hd ⟨3, .data⟩ (by simp) rfl
        (try dsimp only); (try simp only [dq1, dq3])
        go_simp
        go_at_call 33
        (with_reducible refine (rs_same _ b7 A7 n7 c7 A'7 n'7 c'7 (-(q)) ((12)) ?_ b8 A8 n8 c8 A'8 n'8 c'8 (-(q)) ((12)) ?_  ?_ ?_).mono ?_); (exact h7); (exact h8); (exact rfl); (omega); rintro e wr ⟨rfl, hbr⟩
        have hz := hK.out (.bool true) _ rfl hbr
        simp only [dq1, dq3] at hz
        exact hz⟩
    · exact .inl ⟨by simp, by simp, fun xf wq hk hbl hd K hK => by
        have dq4 : xf 4 = .bool true := hd ⟨4, .data⟩ (by simp) rfl
        (try dsimp only); (try simp only [dq4])
        go_simp
        have hz := hK.out (.bool true) _ rfl (brefl _)
        simp only [dq4] at hz
        exact hz⟩
    · exact .inl ⟨by simp, by simp, fun xf wq hk hbl hd K hK => by
        have dq5 : xf 5 = .bool true := hd ⟨5, .guard⟩ (by simp) rfl
        have y : Blk wq w.heap.size 24 #[.bool b, .slice A n c, .slice D m e] := hbl _ (List.Mem.head _) (by simp [Region.binds])
        obtain ⟨hcl0, hcl1, hcl2⟩ := y.c3
        (try dsimp only); (try simp only [dq5])
        go_simp
        have hz := hK.out (.agg #[.bool b, .slice A n c, .slice D m e]) _ rfl (brefl _)
        simp only [dq5] at hz
        exact hz⟩
    · exact .inl ⟨by simp, by simp, fun xf wq hk hbl hd K hK => by
        have dq6 : xf 6 = .agg #[.bool b, .slice A n c, .slice D m e] := hd ⟨6, .data⟩ (by simp) rfl
        have dq5 : xf 5 = .bool true := hd ⟨5, .guard⟩ (by simp) rfl
        (try dsimp only); (try simp only [dq6, dq5])
        go_simp
        go_at_call 58
        (with_reducible refine (f_abs_v _ b A n c D m e (q) (12) ?_ ?_ ?_).mono ?_); (exact (H.keep hk)); (first | omega | decide | assumption); (first | omega | decide | assumption); rintro e wr ⟨b10, A10, n10, c10, A'10, n'10, c'10, rfl, h10, hbr⟩
        have hz := hK.out _ _ ⟨b10, A10, n10, c10, A'10, n'10, c'10, rfl, h10⟩ hbr
        simp only [dq6, dq5] at hz
        exact hz⟩
    · exact .inl ⟨by simp, by simp, fun xf wq hk hbl hd K hK => by
        have dq5 : xf 5 = .bool true := hd ⟨5, .guard⟩ (by simp) rfl
        have y : Blk wq w.heap.size 24 #[.bool b, .slice A n c, .slice D m e] := hbl _ (List.Mem.head _) (by simp [Region.binds])
        obtain ⟨hcl0, hcl1, hcl2⟩ := y.c3
        (try dsimp only); (try simp only [dq5])
        go_simp
        have hz := hK.out (.agg #[.bool b, .slice A n c, .slice D m e]) _ rfl (brefl _)
        simp only [dq5] at hz
        exact hz⟩
    · exact .inl ⟨by simp, by simp, fun xf wq hk hbl hd K hK => by
        have dq8 : xf 8 = .agg #[.bool b, .slice A n c, .slice D m e] := hd ⟨8, .data⟩ (by simp) rfl
        have dq5 : xf 5 = .bool true := hd ⟨5, .guard⟩ (by simp) rfl
        (try dsimp only); (try simp only [dq8, dq5])
        go_simp
        go_at_call 64
        (with_reducible refine (g_abs_v _ b A n c D m e (q) (12) ?_ ?_ ?_).mono ?_); (exact (H.keep hk)); (first | omega | decide | assumption); (first | omega | decide | assumption); rintro e wr ⟨b11, A11, n11, c11, A'11, n'11, c'11, rfl, h11, hbr⟩
        have hz := hK.out _ _ ⟨b11, A11, n11, c11, A'11, n'11, c'11, rfl, h11⟩ hbr
        simp only [dq8, dq5] at hz
        exact hz⟩
    · exact .inl ⟨by simp, by simp, fun xf wq hk hbl hd K hK => by
        obtain ⟨b10, A10, n10, c10, A'10, n'10, c'10, dq7, h10⟩ : VQ (absQ (q)) ((12) + 2) (xf 7) wq := hd ⟨7, .data⟩ (by simp) rfl
        obtain ⟨b11, A11, n11, c11, A'11, n'11, c'11, dq9, h11⟩ : VQ (absQ (q)) ((12) + 2) (xf 9) wq := hd ⟨9, .data⟩ (by simp) rfl
        have dq5 : xf 5 = .bool true := hd ⟨5, .guard⟩ (by simp) rfl
        (try dsimp only); (try simp only [dq7, dq9, dq5])
        go_simp
        go_at_call 33
        (with_reducible refine (rs_same _ b10 A10 n10 c10 A'10 n'10 c'10 (absQ (q)) ((12) + 2) ?_ b11 A11 n11 c11 A'11 n'11 c'11 (absQ (q)) ((12) + 2) ?_  ?_ ?_).mono ?_); (exact h10); (exact h11); (exact rfl); (omega); rintro e wr ⟨rfl, hbr⟩
        have hz := hK.out (.bool true) _ rfl hbr
        simp only [dq7, dq9, dq5] at hz
        exact hz⟩
    · exact .inl ⟨by simp, by simp, fun xf wq hk hbl hd K hK => by
        have dq5 : xf 5 = .bool true := hd ⟨5, .data⟩ (by simp) rfl
        have dq10 : xf 10 = .bool true := hd ⟨10, .data⟩ (by simp) rfl
        (try dsimp only); (try simp only [dq5, dq10])
        go_simp
        have hz := hK.out (.bool true) _ rfl (brefl _)
        simp only [dq5, dq10] at hz
        exact hz⟩
    · exact .inl ⟨by simp, by simp, fun xf wq hk hbl hd K hK => by
        have dq11 : xf 11 = .bool true := hd ⟨11, .data⟩ (by simp) rfl
        (try dsimp only); (try simp only [dq11])
        go_simp
        have hz := hK.out (.bool true) _ rfl (brefl _)
        simp only [dq11] at hz
        exact hz⟩
    · exact .inl ⟨by simp, by simp, fun xf wq hk hbl hd K hK => by
        have dq12 : xf 12 = .bool true := hd ⟨12, .guard⟩ (by simp) rfl
        have y : Blk wq w.heap.size 24 #[.bool b, .slice A n c, .slice D m e] := hbl _ (List.Mem.head _) (by simp [Region.binds])
        obtain ⟨hcl0, hcl1, hcl2⟩ := y.c3
        (try dsimp only); (try simp only [dq12])
        go_simp
        have hz := hK.out (.agg #[.bool b, .slice A n c, .slice D m e]) _ rfl (brefl _)
        simp only [dq12] at hz
        exact hz⟩
    · exact .inl ⟨by simp, by simp, fun xf wq hk hbl hd K hK => by
        have dq13 : xf 13 = .agg #[.bool b, .slice A n c, .slice D m e] := hd ⟨13, .data⟩ (by simp) rfl
        have dq12 : xf 12 = .bool true := hd ⟨12, .guard⟩ (by simp) rfl
        (try dsimp only); (try simp only [dq13, dq12])
        go_simp
        go_at_call 44
        (with_reducible refine (f_sign_v _ b A n c D m e (q) (12) ?_ s HS.out ?_ ?_).mono ?_); (exact (H.keep hk)); (first | omega | decide | assumption); (first | omega | decide | assumption); rintro e wr ⟨rfl, hbr⟩
        have hz := hK.out (.int .i64 s) _ rfl hbr
        simp only [dq13, dq12] at hz
        exact hz⟩
    · exact .inl ⟨by simp, by simp, fun xf wq hk hbl hd K hK => by
        have dq12 : xf 12 = .bool true := hd ⟨12, .guard⟩ (by simp) rfl
        have y : Blk wq w.heap.size 24 #[.bool b, .slice A n c, .slice D m e] := hbl _ (List.Mem.head _) (by simp [Region.binds])
        obtain ⟨hcl0, hcl1, hcl2⟩ := y.c3
        (try dsimp only); (try simp only [dq12])
        go_simp
        have hz := hK.out (.agg #[.bool b, .slice A n c, .slice D m e]) _ rfl (brefl _)
        simp only [dq12] at hz
        exact hz⟩
    · exact .inl ⟨by simp, by simp, fun xf wq hk hbl hd K hK => by
        have dq15 : xf 15 = .agg #[.bool b, .slice A n c, .slice D m e] := hd ⟨15, .data⟩ (by simp) rfl
        have dq12 : xf 12 = .bool true := hd ⟨12, .guard⟩ (by simp) rfl
        (try dsimp only); (try simp only [dq15, dq12])
        go_simp
        go_at_call 65
        (with_reducible refine (g_sign_v _ b A n c D m e (q) (12) ?_ s HS.out ?_ ?_).mono ?_); (exact (H.keep hk)); (first | omega | decide | assumption); (first | omega | decide | assumption); rintro e wr ⟨rfl, hbr⟩
        have hz := hK.out (.int .i64 s) _ rfl hbr
        simp only [dq15, dq12] at hz
        exact hz⟩
    · exact .inl ⟨by simp, by simp, fun xf wq hk hbl hd K hK => by
        have dq14 : xf 14 = .int .i64 s := hd ⟨14, .data⟩ (by simp) rfl
        have dq16 : xf 16 = .int .i64 s := hd ⟨16, .data⟩ (by simp) rfl
        have dq12 : xf 12 = .bool true := hd ⟨12, .guard⟩ (by simp) rfl
        (try dsimp only); (try simp only [dq14, dq16, dq12])
        go_simp
        have hz := hK.out (.bool true) _ rfl (brefl _)
        simp only [dq14, dq16, dq12] at hz
        exact hz⟩
    · exact .inl ⟨by simp, by simp, fun xf wq hk hbl hd K hK => by
        have dq12 : xf 12 = .bool true := hd ⟨12, .data⟩ (by simp) rfl
        have dq17 : xf 17 = .bool true := hd ⟨17, .data⟩ (by simp) rfl
        (try dsimp only); (try simp only [dq12, dq17])
        go_simp
        have hz := hK.out (.bool true) _ rfl (brefl _)
        simp only [dq12, dq17] at hz
        exact hz⟩
    · exact .inl ⟨by simp, by simp, fun xf wq hk hbl hd K hK => by
        have dq18 : xf 18 = .bool true := hd ⟨18, .data⟩ (by simp) rfl
        (try dsimp only); (try simp only [dq18])
        go_simp
        have hz := hK.out (.bool true) _ rfl (brefl _)
        simp only [dq18] at hz
        exact hz⟩
    · exact .inl ⟨by simp, by simp, fun xf wq hk hbl hd K hK => by
        have dq19 : xf 19 = .bool true := hd ⟨19, .guard⟩ (by simp) rfl
        have y : Blk wq w.heap.size 24 #[.bool b, .slice A n c, .slice D m e] := hbl _ (List.Mem.head _) (by simp [Region.binds])
        obtain ⟨hcl0, hcl1, hcl2⟩ := y.c3
        (try dsimp only); (try simp only [dq19])
        go_simp
        have hz := hK.out (.agg #[.bool b, .slice A n c, .slice D m e]) _ rfl (brefl _)
        simp only [dq19] at hz
        exact hz⟩
    · exact .inl ⟨by simp, by simp, fun xf wq hk hbl hd K hK => by
        have dq19 : xf 19 = .bool true := hd ⟨19, .guard⟩ (by simp) rfl
        have y : Blk wq (w.heap.size + 1) 24 #[.bool b', .slice A' n' c', .slice D' m' e'] := hbl _ (List.Mem.tail _ (List.Mem.head _)) (by simp [Region.binds])
        obtain ⟨hcl0, hcl1, hcl2⟩ := y.c3
        (try dsimp only); (try simp only [dq19])
        go_simp
        have hz := hK.out (.agg #[.bool b', .slice A' n' c', .slice D' m' e']) _ rfl (brefl _)
        simp only [dq19] at hz
        exact hz⟩
    · exact .inl ⟨by simp, by simp, fun xf wq hk hbl hd K hK => by
        have dq20 : xf 20 = .agg #[.bool b, .slice A n c, .slice D m e] := hd ⟨20, .data⟩ (by simp) rfl
        have dq21 : xf 21 = .agg #[.bool b', .slice A' n' c', .slice D' m' e'] := hd ⟨21, .data⟩ (by simp) rfl
        have dq19 : xf 19 = .bool true := hd ⟨19, .guard⟩ (by simp) rfl
        (try dsimp only); (try simp only [dq20, dq21, dq19])
        go_simp
        go_at_call 42
        (with_reducible refine (f_add _ b A n c D m e (q) (12) ?_ b' A' n' c' D' m' e' (q') (12) ?_ ?_ ?_ ?_ ?_).mono ?_); (exact (H.keep hk)); (exact (H'.keep hk)); (first | omega | decide | assumption); (first | omega | decide | assumption); (first | omega | decide | assumption); (first | omega | decide | assumption); rintro e wr ⟨b15, A15, n15, c15, A'15, n'15, c'15, rfl, h15, hbr⟩
        have hz := hK.out _ _ ⟨b15, A15, n15, c15, A'15, n'15, c'15, rfl, h15⟩ hbr
        simp only [dq20, dq21, dq19] at hz
        exact hz⟩
    · exact .inl ⟨by simp, by simp, fun xf wq hk hbl hd K hK => by
        have dq19 : xf 19 = .bool true := hd ⟨19, .guard⟩ (by simp) rfl
        have y : Blk wq w.heap.size 24 #[.bool b, .slice A n c, .slice D m e] := hbl _ (List.Mem.head _) (by simp [Region.binds])
        obtain ⟨hcl0, hcl1, hcl2⟩ := y.c3
        (try dsimp only); (try simp only [dq19])
        go_simp
        have hz := hK.out (.agg #[.bool b, .slice A n c, .slice D m e]) _ rfl (brefl _)
        simp only [dq19] at hz
        exact hz⟩
    · exact .inl ⟨by simp, by simp, fun xf wq hk hbl hd K hK => by
        have dq19 : xf 19 = .bool true := hd ⟨19, .guard⟩ (by simp) rfl
        have y : Blk wq (w.heap.size + 1) 24 #[.bool b', .slice A' n' c', .slice D' m' e'] := hbl _ (List.Mem.tail _ (List.Mem.head _)) (by simp [Region.binds])
        obtain ⟨hcl0, hcl1, hcl2⟩ := y.c3
        (try dsimp only); (try simp only [dq19])
        go_simp
        have hz := hK.out (.agg #[.bool b', .slice A' n' c', .slice D' m' e']) _ rfl (brefl _)
        simp only [dq19] at hz
        exact hz⟩
    · exact .inl ⟨by simp, by simp, fun xf wq hk hbl hd K hK => by
        have dq23 : xf 23 = .agg #[.bool b, .slice A n c, .slice D m e] := hd ⟨23, .data⟩ (by simp) rfl
        have dq24 : xf 24 = .agg #[.bool b', .slice A' n' c', .slice D' m' e'] := hd ⟨24, .data⟩ (by simp) rfl
        have dq19 : xf 19 = .bool true := hd ⟨19, .guard⟩ (by simp) rfl
        (try dsimp only); (try simp only [dq23, dq24, dq19])
        go_simp
        go_at_call 66
        (with_reducible refine (g_add _ b A n c D m e (q) (12) ?_ b' A' n' c' D' m' e' (q') (12) ?_ ?_ ?_ ?_ ?_).mono ?_); (exact (H.keep hk)); (exact (H'.keep hk)); (first | omega | decide | assumption); (first | omega | decide | assumption); (first | omega | decide | assumption); (first | omega | decide | assumption); rintro e wr ⟨b16, A16, n16, c16, A'16, n'16, c'16, rfl, h16, hbr⟩
        have hz := hK.out _ _ ⟨b16, A16, n16, c16, A'16, n'16, c'16, rfl, h16⟩ hbr
        simp only [dq23, dq24, dq19] at hz
        exact hz⟩
    · exact .inl ⟨by simp, by simp, fun xf wq hk hbl hd K hK => by
        obtain ⟨b15, A15, n15, c15, A'15, n'15, c'15, dq22, h15⟩ : VQ ((q) + (q')) ((12) + (12) + 1) (xf 22) wq := hd ⟨22, .data⟩ (by simp) rfl
        obtain ⟨b16, A16, n16, c16, A'16, n'16, c'16, dq25, h16⟩ : VQ ((q) + (q')) ((12) + (12) + 1) (xf 25) wq := hd ⟨25, .data⟩ (by simp) rfl
        have dq19 : xf 19 = .bool true := hd ⟨19, .guard⟩ (by simp) rfl
        (try dsimp only); (try simp only [dq22, dq25, dq19])
        go_simp
        go_at_call 33
        (with_reducible refine (rs_same _ b15 A15 n15 c15 A'15 n'15 c'15 ((q) + (q')) ((12) + (12) + 1) ?_ b16 A16 n16 c16 A'16 n'16 c'16 ((q) + (q')) ((12) + (12) + 1) ?_  ?_ ?_).mono ?_); (exact h15); (exact h16); (exact rfl); (omega); rintro e wr ⟨rfl, hbr⟩
        have hz := hK.out (.bool true) _ rfl hbr
        simp only [dq22, dq25, dq19] at hz
        exact hz⟩
    · exact .inl ⟨by simp, by simp, fun xf wq hk hbl hd K hK => by
        have dq19 : xf 19 = .bool true := hd ⟨19, .data⟩ (by simp) rfl
        have dq26 : xf 26 = .bool true := hd ⟨26, .data⟩ (by simp) rfl
        (try dsimp only); (try simp only [dq19, dq26])
        go_simp
        have hz := hK.out (.bool true) _ rfl (brefl _)
        simp only [dq19, dq26] at hz
        exact hz⟩
    · exact .inl ⟨by simp, by simp, fun xf wq hk hbl hd K hK => by
        have dq27 : xf 27 = .bool true := hd ⟨27, .data⟩ (by simp) rfl
        (try dsimp only); (try simp only [dq27])
        go_simp
        have hz := hK.out (.bool true) _ rfl (brefl _)
        simp only [dq27] at hz
        exact hz⟩
    · exact .inl ⟨by simp, by simp, fun xf wq hk hbl hd K hK => by
        have dq28 : xf 28 = .bool true := hd ⟨28, .guard⟩ (by simp) rfl
        have y : Blk wq w.heap.size 24 #[.bool b, .slice A n c, .slice D m e] := hbl _ (List.Mem.head _) (by simp [Region.binds])
        obtain ⟨hcl0, hcl1, hcl2⟩ := y.c3
        (try dsimp only); (try simp only [dq28])
        go_simp
        have hz := hK.out (.agg #[.bool b, .slice A n c, .slice D m e]) _ rfl (brefl _)
        simp only [dq28] at hz
        exact hz⟩
    · exact .inl ⟨by simp, by simp, fun xf wq hk hbl hd K hK => by
        have dq28 : xf 28 = .bool true := hd ⟨28, .guard⟩ (by simp) rfl
        have y : Blk wq (w.heap.size + 1) 24 #[.bool b', .slice A' n' c', .slice D' m' e'] := hbl _ (List.Mem.tail _ (List.Mem.head _)) (by simp [Region.binds])
        obtain ⟨hcl0, hcl1, hcl2⟩ := y.c3
        (try dsimp only); (try simp only [dq28])
        go_simp
        have hz := hK.out (.agg #[.bool b', .slice A' n' c', .slice D' m' e']) _ rfl (brefl _)
        simp only [dq28] at hz
        exact hz⟩
    · exact .inl ⟨by simp, by simp, fun xf wq hk hbl hd K hK => by
        have dq29 : xf 29 = .agg #[.bool b, .slice A n c, .slice D m e] := hd ⟨29, .data⟩ (by simp) rfl
        have dq30 : xf 30 = .agg #[.bool b', .slice A' n' c', .slice D' m' e'] := hd ⟨30, .data⟩ (by simp) rfl
        have dq28 : xf 28 = .bool true := hd ⟨28, .guard⟩ (by simp) rfl
        (try dsimp only); (try simp only [dq29, dq30, dq28])
        go_simp
        go_at_call 55
        (with_reducible refine (f_sub _ b A n c D m e (q) (12) ?_ b' A' n' c' D' m' e' (q') (12) ?_ ?_ ?_ ?_ ?_).mono ?_); (exact (H.keep hk)); (exact (H'.keep hk)); (first | omega | decide | assumption); (first | omega | decide | assumption); (first | omega | decide | assumption); (first | omega | decide | assumption); rintro e wr ⟨b18, A18, n18, c18, A'18, n'18, c'18, rfl, h18, hbr⟩
        have hz := hK.out _ _ ⟨b18, A18, n18, c18, A'18, n'18, c'18, rfl, h18⟩ hbr
        simp only [dq29, dq30, dq28] at hz
        exact hz⟩
    · exact .inl ⟨by simp, by simp, fun xf wq hk hbl hd K hK => by
        have dq28 : xf 28 = .bool true := hd ⟨28, .guard⟩ (by simp) rfl
        have y : Blk wq w.heap.size 24 #[.bool b, .slice A n c, .slice D m e] := hbl _ (List.Mem.head _) (by simp [Region.binds])
        obtain ⟨hcl0, hcl1, hcl2⟩ := y.c3
        (try dsimp only); (try simp only [dq28])
        go_simp
        have hz := hK.out (.agg #[.bool b, .slice A n c, .slice D m e]) _ rfl (brefl _)
        simp only [dq28] at hz
        exact hz⟩
    · exact .inl ⟨by simp, by simp, fun xf wq hk hbl hd K hK => by
        have dq28 : xf 28 = .bool true := hd ⟨28, .guard⟩ (by simp) rfl
        have y : Blk wq (w.heap.size + 1) 24 #[.bool b', .slice A' n' c', .slice D' m' e'] := hbl _ (List.Mem.tail _ (List.Mem.head _)) (by simp [Region.binds])
        obtain ⟨hcl0, hcl1, hcl2⟩ := y.c3
        (try dsimp only); (try simp only [dq28])
        go_simp
        have hz := hK.out (.agg #[.bool b', .slice A' n' c', .slice D' m' e']) _ rfl (brefl _)
        simp only [dq28] at hz
        exact hz⟩
    · exact .inl ⟨by simp, by simp, fun xf wq hk hbl hd K hK => by
        have dq32 : xf 32 = .agg #[.bool b, .slice A n c, .slice D m e] := hd ⟨32, .data⟩ (by simp) rfl
        have dq33 : xf 33 = .agg #[.bool b', .slice A' n' c', .slice D' m' e'] := hd ⟨33, .data⟩ (by simp) rfl
        have dq28 : xf 28 = .bool true := hd ⟨28, .guard⟩ (by simp) rfl
        (try dsimp only); (try simp only [dq32, dq33, dq28])
        go_simp
        go_at_call 67
        (with_reducible refine (g_sub _ b A n c D m e (q) (12) ?_ b' A' n' c' D' m' e' (q') (12) ?_ ?_ ?_ ?_ ?_).mono ?_); (exact (H.keep hk)); (exact (H'.keep hk)); (first | omega | decide | assumption); (first | omega | decide | assumption); (first | omega | decide | assumption); (first | omega | decide | assumption); rintro e wr ⟨b19, A19, n19, c19, A'19, n'19, c'19, rfl, h19, hbr⟩
        have hz := hK.out _ _ ⟨b19, A19, n19, c19, A'19, n'19, c'19, rfl, h19⟩ hbr
        simp only [dq32, dq33, dq28] at hz
        exact hz⟩
    · exact .inl ⟨by simp, by simp, fun xf wq hk hbl hd K hK => by
        obtain ⟨b18, A18, n18, c18, A'18, n'18, c'18, dq31, h18⟩ : VQ ((q) - (q')) ((12) + (12) + 1) (xf 31) wq := hd ⟨31, .data⟩ (by simp) rfl
        obtain ⟨b19, A19, n19, c19, A'19, n'19, c'19, dq34, h19⟩ : VQ ((q) - (q')) ((12) + (12) + 1) (xf 34) wq := hd ⟨34, .data⟩ (by simp) rfl
        have dq28 : xf 28 = .bool true := hd ⟨28, .guard⟩ (by simp) rfl
        (try dsimp only); (try simp only [dq31, dq34, dq28])
        go_simp
        go_at_call 33
        (with_reducible refine (rs_same _ b18 A18 n18 c18 A'18 n'18 c'18 ((q) - (q')) ((12) + (12) + 1) ?_ b19 A19 n19 c19 A'19 n'19 c'19 ((q) - (q')) ((12) + (12) + 1) ?_  ?_ ?_).mono ?_); (exact h18); (exact h19); (exact rfl); (omega); rintro e wr ⟨rfl, hbr⟩
        have hz := hK.out (.bool true) _ rfl hbr
        simp only [dq31, dq34, dq28] at hz
        exact hz⟩
    · exact .inl ⟨by simp, by simp, fun xf wq hk hbl hd K hK => by
        have dq28 : xf 28 = .bool true := hd ⟨28, .data⟩ (by simp) rfl
        have dq35 : xf 35 = .bool true := hd ⟨35, .data⟩ (by simp) rfl
        (try dsimp only); (try simp only [dq28, dq35])
        go_simp
        have hz := hK.out (.bool true) _ rfl (brefl _)
        simp only [dq28, dq35] at hz
        exact hz⟩
    · exact .inl ⟨by simp, by simp, fun xf wq hk hbl hd K hK => by
        have dq36 : xf 36 = .bool true := hd ⟨36, .data⟩ (by simp) rfl
        (try dsimp only); (try simp only [dq36])
        go_simp
        have hz := hK.out (.bool true) _ rfl (brefl _)
        simp only [dq36] at hz
        exact hz⟩
    · exact .inl ⟨by simp, by simp, fun xf wq hk hbl hd K hK => by
        have dq37 : xf 37 = .bool true := hd ⟨37, .guard⟩ (by simp) rfl
        have y : Blk wq w.heap.size 24 #[.bool b, .slice A n c, .slice D m e] := hbl _ (List.Mem.head _) (by simp [Region.binds])
        obtain ⟨hcl0, hcl1, hcl2⟩ := y.c3
        (try dsimp only); (try simp only [dq37])
        go_simp
        have hz := hK.out (.agg #[.bool b, .slice A n c, .slice D m e]) _ rfl (brefl _)
        simp only [dq37] at hz
        exact hz⟩
    · exact .inl ⟨by simp, by simp, fun xf wq hk hbl hd K hK => by
        have dq37 : xf 37 = .bool true := hd ⟨37, .guard⟩ (by simp) rfl
        have y : Blk wq (w.heap.size + 1) 24 #[.bool b', .slice A' n' c', .slice D' m' e'] := hbl _ (List.Mem.tail _ (List.Mem.head _)) (by simp [Region.binds])
        obtain ⟨hcl0, hcl1, hcl2⟩ := y.c3
        (try dsimp only); (try simp only [dq37])
        go_simp
        have hz := hK.out (.agg #[.bool b', .slice A' n' c', .slice D' m' e']) _ rfl (brefl _)
        simp only [dq37] at hz
        exact hz⟩
    · exact .inl ⟨by simp, by simp, fun xf wq hk hbl hd K hK => by
        have dq38 : xf 38 = .agg #[.bool b, .slice A n c, .slice D m e] := hd ⟨38, .data⟩ (by simp) rfl
        have dq39 : xf 39 = .agg #[.bool b', .slice A' n' c', .slice D' m' e'] := hd ⟨39, .data⟩ (by simp) rfl
        have dq37 : xf 37 = .bool true := hd ⟨37, .guard⟩ (by simp) rfl
        (try dsimp only); (try simp only [dq38, dq39, dq37])
        go_simp
        go_at_call 43
        (with_reducible refine (f_mul _ b A n c D m e (q) (12) ?_ b' A' n' c' D' m' e' (q') (12) ?_ ?_ ?_ ?_ ?_).mono ?_); (exact (H.keep hk)); (exact (H'.keep hk)); (first | omega | decide | assumption); (first | omega | decide | assumption); (first | omega | decide | assumption); (first | omega | decide | assumption); rintro e wr ⟨b21, A21, n21, c21, A'21, n'21, c'21, rfl, h21, hbr⟩
        have hz := hK.out _ _ ⟨b21, A21, n21, c21, A'21, n'21, c'21, rfl, h21⟩ hbr
        simp only [dq38, dq39, dq37] at hz
        exact hz⟩
    · exact .inl ⟨by simp, by simp, fun xf wq hk hbl hd K hK => by
        have dq37 : xf 37 = .bool true := hd ⟨37, .guard⟩ (by simp) rfl
        have y : Blk wq w.heap.size 24 #[.bool b, .slice A n c, .slice D m e] := hbl _ (List.Mem.head _) (by simp [Region.binds])
        obtain ⟨hcl0, hcl1, hcl2⟩ := y.c3
        (try dsimp only); (try simp only [dq37])
        go_simp
        have hz := hK.out (.agg #[.bool b, .slice A n c, .slice D m e]) _ rfl (brefl _)
        simp only [dq37] at hz
        exact hz⟩
    · exact .inl ⟨by simp, by simp, fun xf wq hk hbl hd K hK => by
        have dq37 : xf 37 = .bool true := hd ⟨37, .guard⟩ (by simp) rfl
        have y : Blk wq (w.heap.size + 1) 24 #[.bool b', .slice A' n' c', .slice D' m' e'] := hbl _ (List.Mem.tail _ (List.Mem.head _)) (by simp [Region.binds])
        obtain ⟨hcl0, hcl1, hcl2⟩ := y.c3
        (try dsimp only); (try simp only [dq37])
        go_simp
        have hz := hK.out (.agg #[.bool b', .slice A' n' c', .slice D' m' e']) _ rfl (brefl _)
        simp only [dq37] at hz
        exact hz⟩
    · exact .inl ⟨by simp, by simp, fun xf wq hk hbl hd K hK => by
        have dq41 : xf 41 = .agg #[.bool b, .slice A n c, .slice D m e] := hd ⟨41, .data⟩ (by simp) rfl
        have dq42 : xf 42 = .agg #[.bool b', .slice A' n' c', .slice D' m' e'] := hd ⟨42, .data⟩ (by simp) rfl
        have dq37 : xf 37 = .bool true := hd ⟨37, .guard⟩ (by simp) rfl
        (try dsimp only); (try simp only [dq41, dq42, dq37])
        go_simp
        go_at_call 68
        (with_reducible refine (g_mul _ b A n c D m e (q) (12) ?_ b' A' n' c' D' m' e' (q') (12) ?_ ?_ ?_ ?_ ?_).mono ?_); (exact (H.keep hk)); (exact (H'.keep hk)); (first | omega | decide | assumption); (first | omega | decide | assumption); (first | omega | decide | assumption); (first | omega | decide | assumption); rintro e wr ⟨b22, A22, n22, c22, A'22, n'22, c'22, rfl, h22, hbr⟩
        have hz := hK.out _ _ ⟨b22, A22, n22, c22, A'22, n'22, c'22, rfl, h22⟩ hbr
        simp only [dq41, dq42, dq37] at hz
        exact hz⟩
    · exact .inl ⟨by simp, by simp, fun xf wq hk hbl hd K hK => by
        obtain ⟨b21, A21, n21, c21, A'21, n'21, c'21, dq40, h21⟩ : VQ ((q) * (q')) ((12) + (12)) (xf 40) wq := hd ⟨40, .data⟩ (by simp) rfl
        obtain ⟨b22, A22, n22, c22, A'22, n'22, c'22, dq43, h22⟩ : VQ ((q) * (q')) ((12) + (12)) (xf 43) wq := hd ⟨43, .data⟩ (by simp) rfl
        have dq37 : xf 37 = .bool true := hd ⟨37, .guard⟩ (by simp) rfl
        (try dsimp only); (try simp only [dq40, dq43, dq37])
        go_simp
        go_at_call 33
        (with_reducible refine (rs_same _ b21 A21 n21 c21 A'21 n'21 c'21 ((q) * (q')) ((12) + (12)) ?_ b22 A22 n22 c22 A'22 n'22 c'22 ((q) * (q')) ((12) + (12)) ?_  ?_ ?_).mono ?_); (exact h21); (exact h22); (exact rfl); (omega); rintro e wr ⟨rfl, hbr⟩
        have hz := hK.out (.bool true) _ rfl hbr
        simp only [dq40, dq43, dq37] at hz
        exact hz⟩
    · exact .inl ⟨by simp, by simp, fun xf wq hk hbl hd K hK => by
        have dq37 : xf 37 = .bool true := hd ⟨37, .data⟩ (by simp) rfl
        have dq44 : xf 44 = .bool true := hd ⟨44, .data⟩ (by simp) rfl
        (try dsimp only); (try simp only [dq37, dq44])
        go_simp
        have hz := hK.out (.bool true) _ rfl (brefl _)
        simp only [dq37, dq44] at hz
        exact hz⟩
    · exact .inl ⟨by simp, by simp, fun xf wq hk hbl hd K hK => by
        have dq45 : xf 45 = .bool true := hd ⟨45, .data⟩ (by simp) rfl
        (try dsimp only); (try simp only [dq45])
        go_simp
        have hz := hK.out (.bool true) _ rfl (brefl _)
        simp only [dq45] at hz
        exact hz⟩
    · exact .inl ⟨by simp, by simp, fun xf wq hk hbl hd K hK => by
        have dq46 : xf 46 = .bool true := hd ⟨46, .guard⟩ (by simp) rfl
        (try dsimp only); (try simp only [dq46])
        go_simp
        have hz := hK.out (errV x) _ rfl (brefl _)
        simp only [dq46] at hz
        exact hz⟩
    · exact .inl ⟨by simp, by simp, fun xf wq hk hbl hd K hK => by
        have dq47 : xf 47 = errV x := hd ⟨47, .data⟩ (by simp) rfl
        have dq46 : xf 46 = .bool true := hd ⟨46, .guard⟩ (by simp) rfl
        (try dsimp only); (try simp only [dq47, dq46])
        go_simp
        go_at_call 21
        (with_reducible refine (b_num_v _ x).mono ?_); rintro e wr ⟨rfl, hbr⟩
        have hz := hK.out (.int .i64 x) _ rfl hbr
        simp only [dq47, dq46] at hz
        exact hz⟩
    · exact .inl ⟨by simp, by simp, fun xf wq hk hbl hd K hK => by
        have dq46 : xf 46 = .bool true := hd ⟨46, .guard⟩ (by simp) rfl
        (try dsimp only); (try simp only [dq46])
        go_simp
        have hz := hK.out (.int .i64 x) _ rfl (brefl _)
        simp only [dq46] at hz
        exact hz⟩
    · exact .inl ⟨by simp, by simp, fun xf wq hk hbl hd K hK => by
        have dq48 : xf 48 = .int .i64 x := hd ⟨48, .data⟩ (by simp) rfl
        have dq49 : xf 49 = .int .i64 x := hd ⟨49, .data⟩ (by simp) rfl
        have dq46 : xf 46 = .bool true := hd ⟨46, .guard⟩ (by simp) rfl
        (try dsimp only); (try simp only [dq48, dq49, dq46])
        go_simp
        have hz := hK.out (.bool true) _ rfl (brefl _)
        simp only [dq48, dq49, dq46] at hz
        exact hz⟩
    · exact .inl ⟨by simp, by simp, fun xf wq hk hbl hd K hK => by
        have dq46 : xf 46 = .bool true := hd ⟨46, .data⟩ (by simp) rfl
        have dq50 : xf 50 = .bool true := hd ⟨50, .data⟩ (by simp) rfl
        (try dsimp only); (try simp only [dq46, dq50])
        go_simp
        have hz := hK.out (.bool true) _ rfl (brefl _)
        simp only [dq46, dq50] at hz
        exact hz⟩
    · exact .inl ⟨by simp, by simp, fun xf wq hk hbl hd K hK => by
        have dq51 : xf 51 = .bool true := hd ⟨51, .data⟩ (by simp) rfl
        (try dsimp only); (try simp only [dq51])
        go_simp
        have hz := hK.out (.bool true) _ rfl (brefl _)
        simp only [dq51] at hz
        exact hz⟩
    · exact .inl ⟨by simp, by simp, fun xf wq hk hbl hd K hK => by
        have dq52 : xf 52 = .bool true := hd ⟨52, .guard⟩ (by simp) rfl
        have y : Blk wq w3.heap.size 24 #[.bool b3, .slice A3 n3 c3, .slice A'3 n'3 c'3] := hbl _ (List.Mem.tail _ (List.Mem.tail _ (List.Mem.tail _ (List.Mem.head _)))) (by simp [Region.binds])
        obtain ⟨hcl0, hcl1, hcl2⟩ := y.c3
        (try dsimp only); (try simp only [dq52])
        go_simp
        have hz := hK.out (.agg #[.bool b3, .slice A3 n3 c3, .slice A'3 n'3 c'3]) _ rfl (brefl _)
        simp only [dq52] at hz
        exact hz⟩
    · exact .inl ⟨by simp, by simp, fun xf wq hk hbl hd K hK => by
        have dq52 : xf 52 = .bool true := hd ⟨52, .guard⟩ (by simp) rfl
        have y : Blk wq w4.heap.size 24 #[.bool b4, .slice A4 n4 c4, .slice A'4 n'4 c'4] := hbl _ (List.Mem.tail _ (List.Mem.tail _ (List.Mem.tail _ (List.Mem.tail _ (List.Mem.head _))))) (by simp [Region.binds])
        obtain ⟨hcl0, hcl1, hcl2⟩ := y.c3
        (try dsimp only); (try simp only [dq52])
        go_simp
        have hz := hK.out (.agg #[.bool b4, .slice A4 n4 c4, .slice A'4 n'4 c'4]) _ rfl (brefl _)
        simp only [dq52] at hz
        exact hz⟩
    · exact .inl ⟨by simp, by simp, fun xf wq hk hbl hd K hK => by
        have dq53 : xf 53 = .agg #[.bool b3, .slice A3 n3 c3, .slice A'3 n'3 c'3] := hd ⟨53, .data⟩ (by simp) rfl
        have dq54 : xf 54 = .agg #[.bool b4, .slice A4 n4 c4, .slice A'4 n'4 c'4] := hd ⟨54, .data⟩ (by simp) rfl
        have dq52 : xf 52 = .bool true := hd ⟨52, .guard⟩ (by simp) rfl
        (try dsimp only); (try simp only [dq53, dq54, dq52])
        go_simp
        go_at_call 33
        (with_reducible refine (rs_same _ b3 A3 n3 c3 A'3 n'3 c'3 (q / q') (24) ?_ b4 A4 n4 c4 A'4 n'4 c'4 (q / q') (24) ?_  ?_ ?_).mono ?_); (exact (h3.keep hk)); (exact (h4.keep hk)); (exact rfl); (omega); rintro e wr ⟨rfl, hbr⟩
        have hz := hK.out (.bool true) _ rfl hbr
        simp only [dq53, dq54, dq52] at hz
        exact hz⟩
    · exact .inl ⟨by simp, by simp, fun xf wq hk hbl hd K hK => by
        have dq52 : xf 52 = .bool true := hd ⟨52, .data⟩ (by simp) rfl
        have dq55 : xf 55 = .bool true := hd ⟨55, .data⟩ (by simp) rfl
        (try dsimp only); (try simp only [dq52, dq55])
        go_simp
        have hz := hK.out (.bool true) _ rfl (brefl _)
        simp only [dq52, dq55] at hz
        exact hz⟩
    · exact .inl ⟨by simp, by simp, fun xf wq hk hbl hd K hK => by
        have dq56 : xf 56 = .bool true := hd ⟨56, .data⟩ (by simp) rfl
        (try dsimp only); (try simp only [dq56])
        go_simp
        have hz := hK.out (.bool true) _ rfl (brefl _)
        simp only [dq56] at hz
        exact hz⟩
    · exact .inl ⟨by simp, by simp, fun xf wq hk hbl hd K hK => by
        have dq57 : xf 57 = .bool true := hd ⟨57, .guard⟩ (by simp) rfl
        have y : Blk wq w.heap.size 24 #[.bool b, .slice A n c, .slice D m e] := hbl _ (List.Mem.head _) (by simp [Region.binds])
        obtain ⟨hcl0, hcl1, hcl2⟩ := y.c3
        (try dsimp only); (try simp only [dq57])
        go_simp
        have hz := hK.out (.agg #[.bool b, .slice A n c, .slice D m e]) _ rfl (brefl _)
        simp only [dq57] at hz
        exact hz⟩
    · exact .inl ⟨by simp, by simp, fun xf wq hk hbl hd K hK => by
        have dq57 : xf 57 = .bool true := hd ⟨57, .guard⟩ (by simp) rfl
        have y : Blk wq (w.heap.size + 1) 24 #[.bool b', .slice A' n' c', .slice D' m' e'] := hbl _ (List.Mem.tail _ (List.Mem.head _)) (by simp [Region.binds])
        obtain ⟨hcl0, hcl1, hcl2⟩ := y.c3
        (try dsimp only); (try simp only [dq57])
        go_simp
        have hz := hK.out (.agg #[.bool b', .slice A' n' c', .slice D' m' e']) _ rfl (brefl _)
        simp only [dq57] at hz
        exact hz⟩
    · exact .inl ⟨by simp, by simp, fun xf wq hk hbl hd K hK => by
        have dq58 : xf 58 = .agg #[.bool b, .slice A n c, .slice D m e] := hd ⟨58, .data⟩ (by simp) rfl
        have dq59 : xf 59 = .agg #[.bool b', .slice A' n' c', .slice D' m' e'] := hd ⟨59, .data⟩ (by simp) rfl
        have dq57 : xf 57 = .bool true := hd ⟨57, .guard⟩ (by simp) rfl
        (try dsimp only); (try simp only [dq58, dq59, dq57])
        go_simp
        go_at_call 41
        (with_reducible refine (f_cmp_v _ b A n c D m e (q) (12) ?_ b' A' n' c' D' m' e' (q') (12) ?_ u HU.out ?_ ?_ ?_ ?_).mono ?_); (exact (H.keep hk)); (exact (H'.keep hk)); (first | omega | decide | assumption); (first | omega | decide | assumption); (first | omega | decide | assumption); (first | omega | decide | assumption); rintro e wr ⟨rfl, hbr⟩
        have hz := hK.out (.int .i64 u) _ rfl hbr
        simp only [dq58, dq59, dq57] at hz
        exact hz⟩
    · exact .inl ⟨by simp, by simp, fun xf wq hk hbl hd K hK => by
        have dq57 : xf 57 = .bool true := hd ⟨57, .guard⟩ (by simp) rfl
        have y : Blk wq w.heap.size 24 #[.bool b, .slice A n c, .slice D m e] := hbl _ (List.Mem.head _) (by simp [Region.binds])
        obtain ⟨hcl0, hcl1, hcl2⟩ := y.c3
        (try dsimp only); (try simp only [dq57])
        go_simp
        have hz := hK.out (.agg #[.bool b, .slice A n c, .slice D m e]) _ rfl (brefl _)
        simp only [dq57] at hz
        exact hz⟩
    · exact .inl ⟨by simp, by simp, fun xf wq hk hbl hd K hK => by
        have dq57 : xf 57 = .bool true := hd ⟨57, .guard⟩ (by simp) rfl
        have y : Blk wq (w.heap.size + 1) 24 #[.bool b', .slice A' n' c', .slice D' m' e'] := hbl _ (List.Mem.tail _ (List.Mem.head _)) (by simp [Region.binds])
        obtain ⟨hcl0, hcl1, hcl2⟩ := y.c3
        (try dsimp only); (try simp only [dq57])
        go_simp
        have hz := hK.out (.agg #[.bool b', .slice A' n' c', .slice D' m' e']) _ rfl (brefl _)
        simp only [dq57] at hz
        exact hz⟩
    · exact .inl ⟨by simp, by simp, fun xf wq hk hbl hd K hK => by
        have dq61 : xf 61 = .agg #[.bool b, .slice A n c, .slice D m e] := hd ⟨61, .data⟩ (by simp) rfl
        have dq62 : xf 62 = .agg #[.bool b', .slice A' n' c', .slice D' m' e'] := hd ⟨62, .data⟩ (by simp) rfl
        have dq57 : xf 57 = .bool true := hd ⟨57, .guard⟩ (by simp) rfl
        (try dsimp only); (try simp only [dq61, dq62, dq57])
        go_simp
        go_at_call 69
        (with_reducible refine (g_cmp_v _ b A n c D m e (q) (12) ?_ b' A' n' c' D' m' e' (q') (12) ?_ u HU.out ?_ ?_ ?_ ?_).mono ?_); (exact (H.keep hk)); (exact (H'.keep hk)); (first | omega | decide | assumption); (first | omega | decide | assumption); (first | omega | decide | assumption); (first | omega | decide | assumption); rintro e wr ⟨rfl, hbr⟩
        have hz := hK.out (.int .i64 u) _ rfl hbr
        simp only [dq61, dq62, dq57] at hz
        exact hz⟩
    · exact .inl ⟨by simp, by simp, fun xf wq hk hbl hd K hK => by
        have dq60 : xf 60 = .int .i64 u := hd ⟨60, .data⟩ (by simp) rfl
        have dq63 : xf 63 = .int .i64 u := hd ⟨63, .data⟩ (by simp) rfl
        have dq57 : xf 57 = .bool true := hd ⟨57, .guard⟩ (by simp) rfl
        (try dsimp only); (try simp only [dq60, dq63, dq57])
        go_simp
        have hz := hK.out (.bool true) _ rfl (brefl _)
        simp only [dq60, dq63, dq57] at hz
        exact hz⟩
    · exact .inl ⟨by simp, by simp, fun xf wq hk hbl hd K hK => by
        have dq57 : xf 57 = .bool true := hd ⟨57, .data⟩ (by simp) rfl
        have dq64 : xf 64 = .bool true := hd ⟨64, .data⟩ (by simp) rfl
        (try dsimp only); (try simp only [dq57, dq64])
        go_simp
        have hz := hK.out (.bool true) _ rfl (brefl _)
        simp only [dq57, dq64] at hz
        exact hz⟩
    · exact .inl ⟨by simp, by simp, fun xf wq hk hbl hd K hK => by
        have dq65 : xf 65 = .bool true := hd ⟨65, .data⟩ (by simp) rfl
        (try dsimp only); (try simp only [dq65])
        go_simp
        have hz := hK.out (.bool true) _ rfl (brefl _)
        simp only [dq65] at hz
        exact hz⟩
    · exact .inl ⟨by simp, by simp, fun xf wq hk hbl hd K hK => by
        have dq66 : xf 66 = .bool true := hd ⟨66, .guard⟩ (by simp) rfl
        have y : Blk wq w.heap.size 24 #[.bool b, .slice A n c, .slice D m e] := hbl _ (List.Mem.head _) (by simp [Region.binds])
        obtain ⟨hcl0, hcl1, hcl2⟩ := y.c3
        (try dsimp only); (try simp only [dq66])
        go_simp
        have hz := hK.out (.agg #[.bool b, .slice A n c, .slice D m e]) _ rfl (brefl _)
        simp only [dq66] at hz
        exact hz⟩
    · exact .inl ⟨by simp, by simp, fun xf wq hk hbl hd K hK => by
        have dq66 : xf 66 = .bool true := hd ⟨66, .guard⟩ (by simp) rfl
        have y : Blk wq (w.heap.size + 1) 24 #[.bool b', .slice A' n' c', .slice D' m' e'] := hbl _ (List.Mem.tail _ (List.Mem.head _)) (by simp [Region.binds])
        obtain ⟨hcl0, hcl1, hcl2⟩ := y.c3
        (try dsimp only); (try simp only [dq66])
        go_simp
        have hz := hK.out (.agg #[.bool b', .slice A' n' c', .slice D' m' e']) _ rfl (brefl _)
        simp only [dq66] at hz
        exact hz⟩
    · exact .inl ⟨by simp, by simp, fun xf wq hk hbl hd K hK => by
        have dq67 : xf 67 = .agg #[.bool b, .slice A n c, .slice D m e] := hd ⟨67, .data⟩ (by simp) rfl
        have dq68 : xf 68 = .agg #[.bool b', .slice A' n' c', .slice D' m' e'] := hd ⟨68, .data⟩ (by simp) rfl
        have dq66 : xf 66 = .bool true := hd ⟨66, .guard⟩ (by simp) rfl
        (try dsimp only); (try simp only [dq67, dq68, dq66])
        go_simp
        go_at_call 70
        (with_reducible refine (f_min_v _ b A n c D m e (q) (12) ?_ b' A' n' c' D' m' e' (q') (12) ?_ ?_ ?_ ?_ ?_).mono ?_); (exact (H.keep hk)); (exact (H'.keep hk)); (first | omega | decide | assumption); (first | omega | decide | assumption); (first | omega | decide | assumption); (first | omega | decide | assumption); rintro e wr ⟨b28, A28, n28, c28, A'28, n'28, c'28, rfl, h28, hbr⟩
        have hz := hK.out _ _ ⟨b28, A28, n28, c28, A'28, n'28, c'28, rfl, h28⟩ hbr
        simp only [dq67, dq68, dq66] at hz
        exact hz⟩
    · exact .inl ⟨by simp, by simp, fun xf wq hk hbl hd K hK => by
        have dq66 : xf 66 = .bool true := hd ⟨66, .guard⟩ (by simp) rfl
        have y : Blk wq w.heap.size 24 #[.bool b, .slice A n c, .slice D m e] := hbl _ (List.Mem.head _) (by simp [Region.binds])
        obtain ⟨hcl0, hcl1, hcl2⟩ := y.c3
        (try dsimp only); (try simp only [dq66])
        go_simp
        have hz := hK.out (.agg #[.bool b, .slice A n c, .slice D m e]) _ rfl (brefl _)
        simp only [dq66] at hz
        exact hz⟩
    · exact .inl ⟨by simp, by simp, fun xf wq hk hbl hd K hK => by
        have dq66 : xf 66 = .bool true := hd ⟨66, .guard⟩ (by simp) rfl
        have y : Blk wq (w.heap.size + 1) 24 #[.bool b', .slice A' n' c', .slice D' m' e'] := hbl _ (List.Mem.tail _ (List.Mem.head _)) (by simp [Region.binds])
        obtain ⟨hcl0, hcl1, hcl2⟩ := y.c3
        (try dsimp only); (try simp only [dq66])
        go_simp
        have hz := hK.out (.agg #[.bool b', .slice A' n' c', .slice D' m' e']) _ rfl (brefl _)
        simp only [dq66] at hz
        exact hz⟩
    · exact .inl ⟨by simp, by simp, fun xf wq hk hbl hd K hK => by
        have dq70 : xf 70 = .agg #[.bool b, .slice A n c, .slice D m e] := hd ⟨70, .data⟩ (by simp) rfl
        have dq71 : xf 71 = .agg #[.bool b', .slice A' n' c', .slice D' m' e'] := hd ⟨71, .data⟩ (by simp) rfl
        have dq66 : xf 66 = .bool true := hd ⟨66, .guard⟩ (by simp) rfl
        (try dsimp only); (try simp only [dq70, dq71, dq66])
        go_simp
        go_at_call 71
        (with_reducible refine (g_min_v _ b A n c D m e (q) (12) ?_ b' A' n' c' D' m' e' (q') (12) ?_ ?_ ?_ ?_ ?_).mono ?_); (exact (H.keep hk)); (exact (H'.keep hk)); (first | omega | decide | assumption); (first | omega | decide | assumption); (first | omega | decide | assumption); (first | omega | decide | assumption); rintro e wr ⟨b29, A29, n29, c29, A'29, n'29, c'29, rfl, h29, hbr⟩
        have hz := hK.out _ _ ⟨b29, A29, n29, c29, A'29, n'29, c'29, rfl, h29⟩ hbr
        simp only [dq70, dq71, dq66] at hz
        exact hz⟩
    · exact .inl ⟨by simp, by simp, fun xf wq hk hbl hd K hK => by
        obtain ⟨b28, A28, n28, c28, A'28, n'28, c'28, dq69, h28⟩ : VQ (minQ (q) (q')) ((12) + (12) + 2) (xf 69) wq := hd ⟨69, .data⟩ (by simp) rfl
        obtain ⟨b29, A29, n29, c29, A'29, n'29, c'29, dq72, h29⟩ : VQ (minQ (q) (q')) ((12) + (12) + 2) (xf 72) wq := hd ⟨72, .data⟩ (by simp) rfl
        have dq66 : xf 66 = .bool true := hd ⟨66, .guard⟩ (by simp) rfl
        (try dsimp only); (try simp only [dq69, dq72, dq66])
        go_simp
        go_at_call 33
        (with_reducible refine (rs_same _ b28 A28 n28 c28 A'28 n'28 c'28 (minQ (q) (q')) ((12) + (12) + 2) ?_ b29 A29 n29 c29 A'29 n'29 c'29 (minQ (q) (q')) ((12) + (12) + 2) ?_  ?_ ?_).mono ?_); (exact h28); (exact h29); (exact rfl); (omega); rintro e wr ⟨rfl, hbr⟩
        have hz := hK.out (.bool true) _ rfl hbr
        simp only [dq69, dq72, dq66] at hz
        exact hz⟩
    · exact .inl ⟨by simp, by simp, fun xf wq hk hbl hd K hK => by
        have dq66 : xf 66 = .bool true := hd ⟨66, .data⟩ (by simp) rfl
        have dq73 : xf 73 = .bool true := hd ⟨73, .data⟩ (by simp) rfl
        (try dsimp only); (try simp only [dq66, dq73])
        go_simp
        have hz := hK.out (.bool true) _ rfl (brefl _)
        simp only [dq66, dq73] at hz
        exact hz⟩
    · exact .inl ⟨by simp, by simp, fun xf wq hk hbl hd K hK => by
        have dq74 : xf 74 = .bool true := hd ⟨74, .data⟩ (by simp) rfl
        (try dsimp only); (try simp only [dq74])
        go_simp
        have hz := hK.out (.bool true) _ rfl (brefl _)
        simp only [dq74] at hz
        exact hz⟩
    · exact .inl ⟨by simp, by simp, fun xf wq hk hbl hd K hK => by
        have dq75 : xf 75 = .bool true := hd ⟨75, .guard⟩ (by simp) rfl
        have y : Blk wq w.heap.size 24 #[.bool b, .slice A n c, .slice D m e] := hbl _ (List.Mem.head _) (by simp [Region.binds])
        obtain ⟨hcl0, hcl1, hcl2⟩ := y.c3
        (try dsimp only); (try simp only [dq75])
        go_simp
        have hz := hK.out (.agg #[.bool b, .slice A n c, .slice D m e]) _ rfl (brefl _)
        simp only [dq75] at hz
        exact hz⟩
    · exact .inl ⟨by simp, by simp, fun xf wq hk hbl hd K hK => by
        have dq75 : xf 75 = .bool true := hd ⟨75, .guard⟩ (by simp) rfl
        have y : Blk wq (w.heap.size + 1) 24 #[.bool b', .slice A' n' c', .slice D' m' e'] := hbl _ (List.Mem.tail _ (List.Mem.head _)) (by simp [Region.binds])
        obtain ⟨hcl0, hcl1, hcl2⟩ := y.c3
        (try dsimp only); (try simp only [dq75])
        go_simp
        have hz := hK.out (.agg #[.bool b', .slice A' n' c', .slice D' m' e']) _ rfl (brefl _)
        simp only [dq75] at hz
        exact hz⟩
    · exact .inl ⟨by simp, by simp, fun xf wq hk hbl hd K hK => by
        have dq76 : xf 76 = .agg #[.bool b, .slice A n c, .slice D m e] := hd ⟨76, .data⟩ (by simp) rfl
        have dq77 : xf 77 = .agg #[.bool b', .slice A' n' c', .slice D' m' e'] := hd ⟨77, .data⟩ (by simp) rfl
        have dq75 : xf 75 = .bool true := hd ⟨75, .guard⟩ (by simp) rfl
        (try dsimp only); (try simp only [dq76, dq77, dq75])
        go_simp
        go_at_call 72
        (with_reducible refine (f_max_v _ b A n c D m e (q) (12) ?_ b' A' n' c' D' m' e' (q') (12) ?_ ?_ ?_ ?_ ?_).mono ?_); (exact (H.keep hk)); (exact (H'.keep hk)); (first | omega | decide | assumption); (first | omega | decide | assumption); (first | omega | decide | assumption); (first | omega | decide | assumption); rintro e wr ⟨b31, A31, n31, c31, A'31, n'31, c'31, rfl, h31, hbr⟩
        have hz := hK.out _ _ ⟨b31, A31, n31, c31, A'31, n'31, c'31, rfl, h31⟩ hbr
        simp only [dq76, dq77, dq75] at hz
        exact hz⟩
    · exact .inl ⟨by simp, by simp, fun xf wq hk hbl hd K hK => by
        have dq75 : xf 75 = .bool true := hd ⟨75, .guard⟩ (by simp) rfl
        have y : Blk wq w.heap.size 24 #[.bool b, .slice A n c, .slice D m e] := hbl _ (List.Mem.head _) (by simp [Region.binds])
        obtain ⟨hcl0, hcl1, hcl2⟩ := y.c3
        (try dsimp only); (try simp only [dq75])
        go_simp
        have hz := hK.out (.agg #[.bool b, .slice A n c, .slice D m e]) _ rfl (brefl _)
        simp only [dq75] at hz
        exact hz⟩
    · exact .inl ⟨by simp, by simp, fun xf wq hk hbl hd K hK => by
        have dq75 : xf 75 = .bool true := hd ⟨75, .guard⟩ (by simp) rfl
        have y : Blk wq (w.heap.size + 1) 24 #[.bool b', .slice A' n' c', .slice D' m' e'] := hbl _ (List.Mem.tail _ (List.Mem.head _)) (by simp [Region.binds])
        obtain ⟨hcl0, hcl1, hcl2⟩ := y.c3
        (try dsimp only); (try simp only [dq75])
        go_simp
        have hz := hK.out (.agg #[.bool b', .slice A' n' c', .slice D' m' e']) _ rfl (brefl _)
        simp only [dq75] at hz
        exact hz⟩
    · exact .inl ⟨by simp, by simp, fun xf wq hk hbl hd K hK => by
        have dq79 : xf 79 = .agg #[.bool b, .slice A n c, .slice D m e] := hd ⟨79, .data⟩ (by simp) rfl
        have dq80 : xf 80 = .agg #[.bool b', .slice A' n' c', .slice D' m' e'] := hd ⟨80, .data⟩ (by simp) rfl
        have dq75 : xf 75 = .bool true := hd ⟨75, .guard⟩ (by simp) rfl
        (try dsimp only); (try simp only [dq79, dq80, dq75])
        go_simp
        go_at_call 73
        (with_reducible refine (g_max_v _ b A n c D m e (q) (12) ?_ b' A' n' c' D' m' e' (q') (12) ?_ ?_ ?_ ?_ ?_).mono ?_); (exact (H.keep hk)); (exact (H'.keep hk)); (first | omega | decide | assumption); (first | omega | decide | assumption); (first | omega | decide | assumption); (first | omega | decide | assumption); rintro e wr ⟨b32, A32, n32, c32, A'32, n'32, c'32, rfl, h32, hbr⟩
        have hz := hK.out _ _ ⟨b32, A32, n32, c32, A'32, n'32, c'32, rfl, h32⟩ hbr
        simp only [dq79, dq80, dq75] at hz
        exact hz⟩
    · exact .inl ⟨by simp, by simp, fun xf wq hk hbl hd K hK => by
        obtain ⟨b31, A31, n31, c31, A'31, n'31, c'31, dq78, h31⟩ : VQ (maxQ (q) (q')) ((12) + (12) + 2) (xf 78) wq := hd ⟨78, .data⟩ (by simp) rfl
        obtain ⟨b32, A32, n32, c32, A'32, n'32, c'32, dq81, h32⟩ : VQ (maxQ (q) (q')) ((12) + (12) + 2) (xf 81) wq := hd ⟨81, .data⟩ (by simp) rfl
        have dq75 : xf 75 = .bool true := hd ⟨75, .guard⟩ (by simp) rfl
        (try dsimp only); (try simp only [dq78, dq81, dq75])
        go_simp
        go_at_call 33
        (with_reducible refine (rs_same _ b31 A31 n31 c31 A'31 n'31 c'31 (maxQ (q) (q')) ((12) + (12) + 2) ?_ b32 A32 n32 c32 A'32 n'32 c'32 (maxQ (q) (q')) ((12) + (12) + 2) ?_  ?_ ?_).mono ?_); (exact h31); (exact h32); (exact rfl); (omega); rintro e wr ⟨rfl, hbr⟩
        have hz := hK.out (.bool true) _ rfl hbr
        simp only [dq78, dq81, dq75] at hz
        exact hz⟩
    · exact .inl ⟨by simp, by simp, fun xf wq hk hbl hd K hK => by
        have dq75 : xf 75 = .bool true := hd ⟨75, .data⟩ (by simp) rfl
        have dq82 : xf 82 = .bool true := hd ⟨82, .data⟩ (by simp) rfl
        (try dsimp only); (try simp only [dq75, dq82])
        go_simp
        have hz := hK.out (.bool true) _ rfl (brefl _)
        simp only [dq75, dq82] at hz
        exact hz⟩
    · exact .inl ⟨by simp, by simp, fun xf wq hk hbl hd K hK => by
        have dq83 : xf 83 = .bool true := hd ⟨83, .data⟩ (by simp) rfl
        (try dsimp only); (try simp only [dq83])
        go_simp
        have hz := hK.out (.bool true) _ rfl (brefl _)
        simp only [dq83] at hz
        exact hz⟩
    clear cx1aa cx1ab cx1ac lx1aa lx1ab lx1ac lx1ad cx1ba cx1bb cx1bc lx1ba lx1bb lx1bc lx1bd cx4aa cx4ab cx4ac lx4aa lx4ab lx4ac lx4ad cx5aa cx5ab cx5ac lx5aa lx5ab lx5ac lx5ad
    intro y6 w6 kq6 hbl6 lw6 how hrr hfl hds
    replace H := H.keep kq6
    replace H' := H'.keep kq6
    replace h3 := h3.keep kq6
    replace h4 := h4.keep kq6
    obtain ⟨_, z6_0, ez, _⟩ := how _ (List.Mem.head _)
    obtain rfl := ez (by simp)
    dsimp only at z6_0
    obtain ⟨_, z6_1, ez, _⟩ := how _ (List.Mem.tail _ (List.Mem.head _))
    obtain rfl := ez (by simp)
    dsimp only at z6_1
    obtain ⟨_, z6_2, ez, _⟩ := how _ (List.Mem.tail _ (List.Mem.tail _ (List.Mem.head _)))
    obtain rfl := ez (by simp)
    dsimp only at z6_2
    obtain ⟨_, z6_3, ez, _⟩ := how _ (List.Mem.tail _ (List.Mem.tail _ (List.Mem.tail _ (List.Mem.head _))))
    obtain rfl := ez (by simp)
    dsimp only at z6_3
    obtain ⟨_, z6_4, ez, _⟩ := how _ (List.Mem.tail _ (List.Mem.tail _ (List.Mem.tail _ (List.Mem.tail _ (List.Mem.head _)))))
    obtain rfl := ez (by simp)
    dsimp only at z6_4
    have ea84 : y6 84 = .bool true := hrr 84 (by simp)
    (try dsimp only)
    simp only [ea84]
    clear hrr hfl how hds ea84
    clear x1a x1b x1c x4a x5a
    have bw6 := bw5.trans hbl6
    clear bw5
    go_wp2_with fail
    go_ret
    exact retB rfl bw6
end Go.Proofs.YtkpjhmpjihchpaaGreatDoor

/- FractionComputes: sums, products, quotients, comparisons are those of the reference; for every input the law returns true. The listed library variables are tied to the program text. -/
namespace Go.Proofs.YtkpjhmpjihchpaaGreatDoor
open Go Go.RowKit Bn Go.ChangeShapes Go.WideShapes Go.ChangeAt
theorem computes_contract (H : Type) (enc : TypeId × Value → H) (W : World) (base : Nat) (args : Array Value) (ds gs : List (DataW H)) (before : List MemPlace)
    (hval0 : ∀ (j : Nat) t v, Tryz.f11.params[j]? = some t → args[j]? = some v → Value.okWide Tryz.prog W .any base t v)
    (hW : DataW.Whole enc Tryz.prog Tryz.f11.params.toList Rows.fractionComputesSpec.vars false W args.toList ds gs before) (hL : laidMetH Tryz.prog Rows.fractionComputesRow.laid W) (hsh : W.ShapedOpen Tryz.prog) :
    Calls Tryz.prog 11 args W fun e W' => ∃ v, e = .returned v ∧ Rows.fractionComputesSpec.post enc Tryz.prog Tryz.f11 false true false false W args v W' := by
  have hval : ∀ (j : Nat) t v, Tryz.f11.params[j]? = some t → args[j]? = some v → Value.okWide Tryz.prog W .any base t v := hval0
  have htab : Tab W := tab_of_laid hL
  have hmx : Mx W := mx_of_shaped hsh
  have hW' := hW
  obtain ⟨p, q, hA0, hV, rfl, hfz, hnd⟩ := hW
  have hA : DataW.TrodAll enc Tryz.prog W 0 (fun _ => true) true Tryz.f11.params.toList args.toList ds p := hA0
  rw [Tryz.params11] at hA hval
  obtain ⟨v0, v1, d0, d1, p0, p1, rfl, rfl, rfl, h0, h1⟩ := trodAll_two hA
  obtain ⟨rfl, rfl⟩ := trodVars_none hV
  obtain ⟨b, A, n, c, D, m, e, r, k, rfl, H⟩ := frac_open (hval 0 _ v0 rfl rfl) h0
  obtain ⟨b', A', n', c', D', m', e', r', k', rfl, H'⟩ := frac_open (hval 1 _ v1 rfl rfl) h1
  refine (l_FractionComputes W b A n c D m e r.q k ⟨r, H, rfl⟩ b' A' n' c' D' m' e' r'.q k' ⟨r', H', rfl⟩ htab hmx).mono fun e W' ⟨he, hb⟩ => ?_
  subst he
  exact ⟨_, rfl, law_post laid_out Tryz.underlying4 hW' rfl rfl (by kernel_rfl) rfl rfl rfl hb⟩
theorem computes_lifted (os : Os) (started : os.Started) (H : Type) (enc : TypeId × Value → H) (F : Stop.Interp) :
    ReturnsInHanded {} Tryz.checked os 11 .any ((OpenSpec.ofChange Rows.fractionComputesSpec).preRow enc Tryz.prog Tryz.f11 Rows.fractionComputesRow.domain false Rows.fractionComputesRow.laid) (((OpenSpec.ofChange Rows.fractionComputesSpec).at F).post enc Tryz.prog Tryz.f11 false true false false) := by
  have hx : DataW.whole enc Tryz.prog ((laidWorld os).forCall (fun _ _ => 0) ⟨#[], #[.agg #[.bool false, .slice none 0 0, .slice none 0 0], .agg #[.bool false, .slice none 0 0, .slice none 0 0]], []⟩).memory Tryz.f11.params.toList Rows.fractionComputesSpec.vars false (#[.agg #[.bool false, .slice none 0 0, .slice none 0 0], .agg #[.bool false, .slice none 0 0, .slice none 0 0]] : Array Value).toList 8 = some ([.agg [.lit (.bool false), .nil, .nil], .agg [.lit (.bool false), .nil, .nil]], [], []) := by kernel_rfl
  have hl : laidMet Tryz.prog Rows.fractionComputesRow.laid ((laidWorld os).forCall (fun _ _ => 0) ⟨#[], #[.agg #[.bool false, .slice none 0 0, .slice none 0 0], .agg #[.bool false, .slice none 0 0, .slice none 0 0]], []⟩).memory := laidMet_of_run' 8 (by kernel_rfl) (by kernel_rfl)
  refine returnsInHanded_of_row (C := Tryz.checked) (s := OpenSpec.ofChange Rows.fractionComputesSpec) own_knob started (by kernel_rfl) Tryz.func11
    (witness_row_at (enc := enc) (C := Tryz.checked) false (laidWorld os) #[.agg #[.bool false, .slice none 0 0, .slice none 0 0], .agg #[.bool false, .slice none 0 0, .slice none 0 0]] rfl (by kernel_rfl) (by kernel_rfl) (by kernel_rfl)
      (OpenSpec.preRow_of_cond 8 hx (by kernel_rfl) (fun k hk => by cases hk) (by kernel_rfl) hl)) ?_
  intro W base args ds gs before hval hW _ _ _ hL hsh _
  exact computes_contract H enc W base args ds gs before hval hW hL hsh
theorem computes_j2 : (Rows.fractionComputesRow.inPlace == Tryz.pinned.checked.prog.inPlace 11) = true := by kernel_rfl
theorem computes_j3 : (Rows.fractionComputesRow.unfollowed == Tryz.pinned.checked.prog.unfollowed 11) = true := by kernel_rfl
theorem computes_j4 : (Rows.fractionComputesRow.recurses == Tryz.pinned.checked.prog.recurses 11) = true := by kernel_rfl
theorem computes_j5 : (Rows.fractionComputesRow.named == Tryz.pinned.checked.prog.varsNamed 11) = true := by kernel_rfl
theorem computes_joined : joinedFacts Tryz.pinned.checked.prog 11 Tryz.f11 (OpenSpec.ofChange Rows.fractionComputesSpec).bare Rows.fractionComputesRow = true := joined_parts (by kernel_rfl) computes_j2 computes_j3 computes_j4 computes_j5 (by kernel_rfl)
theorem computes_inst : Tryz.f11.isInstance Tryz.pinned.checked.prog Rows.fractionComputesRow.origin Rows.fractionComputesRow.targs := of_decide_eq_true (by kernel_rfl)
theorem computes_said : Rows.FractionComputesSaid :=
  OpenClaim.holds_of_cond 11 Tryz.f11 rfl rfl rfl rfl rfl rfl rfl ⟨rfl, rfl, rfl, rfl, rfl⟩ rfl rfl rfl rfl rfl (by kernel_rfl) Tryz.func11 computes_joined
    computes_inst (by unfold Func.isWrapper; first | (rw [if_pos (by decide +kernel)]; kernel_rfl) | (rw [if_neg (by decide +kernel)]; exact ⟨rfl, rfl⟩))
    (fun os started H enc _ F => by rw [OpenClaim.pre_eq_preRow]; exact computes_lifted os started H enc F)
theorem computes_plain (f : FuncId) (fn : Func) (hf : Tryz.pinned.checked.prog.funcNamed "linkwork/linkworklaw02.FractionComputes" = some f) (hfn : Tryz.pinned.checked.prog.funcs[f]? = some fn) :
    true = Tryz.pinned.checked.prog.looks [] ∧ ∀ (j : Nat) t, fn.params[j]? = some t → Tryz.pinned.checked.prog.wantsStandIn t = false := by
  obtain rfl : f = 11 := Option.some.inj ((show Tryz.prog.funcNamed "linkwork/linkworklaw02.FractionComputes" = some 11 by kernel_rfl).symm.trans hf) |>.symm
  obtain rfl : fn = Tryz.f11 := (Option.some.inj (Tryz.func11.symm.trans hfn)).symm
  refine ⟨by kernel_rfl, fun j t ht => ?_⟩
  rw [Tryz.params11] at ht
  have hm : t ∈ [24] := by
    have := Array.mem_of_getElem? ht
    simp at this ⊢
    first
      | exact this
      | exact .inl this
  have hall : ([24].all fun u => !Tryz.prog.wantsStandIn u) = true := by kernel_rfl
  exact (show Tryz.prog.wantsStandIn t = false by simpa using List.all_eq_true.1 hall t hm)
theorem computes_holds : Rows.FractionComputesCardSaid :=
  Claim7.holds_tied_plain_at .later [] _ _ _ _ computes_said (fun _ h => by cases h) (by kernel_rfl) (fun _ h => by cases h) fractionComputes_row_tie rfl ⟨rfl, rfl⟩ (by kernel_rfl) rfl computes_plain (by kernel_rfl)
end Go.Proofs.YtkpjhmpjihchpaaGreatDoor
