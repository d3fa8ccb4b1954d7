/- Part A3: lemmas and walks that the claim rests on. No claim is made here. -/
import Derived.Deep.RegionHeld3
import Derived.Deep.DrawnRows
import Derived.BigQuiet
import Derived.Lib.Atoi
import Derived.Lib.SlTrimSet
import Derived.Shelf.Strings.SlTrimAscii
import Derived.WalkSpells
import Derived.Test.YtpnnfbodphflpaaGreatDoorCards
import Derived.Test.YtpnnfbodphflpaaGreatDoorTie
import Derived.ProofKit
import Derived.WalkKit
import Derived.OpenShut
import Derived.Deep.DeepHandedRow
import Derived.Lib.LaidTab
import Derived.Test.YtpnnfbodphflpaaGreatDoorA2
set_option linter.unusedVariables false
/- Walks: the reference's Gcd. -/
namespace Go.Proofs.YtpnnfbodphflpaaGreatDoor
open Go Go.RowKit Bn
attribute [local go_sem ↓] Go.wp_at_zero Go.wp_at_succ
theorem gcd_len {w w' : World} {A : Option Addr} {n c : Nat} {l : List Nat} {A' : Option Addr} {n' c' : Nat} {l' : List Nat} {N : Nat} (h : Wd w A n c l) (h' : Wd w' A' n' c' l') (hn : n ≤ N) (hn' : n' ≤ N) : (digs (Nat.gcd (val l) (val l'))).length ≤ N := length_digs_le (gcd_lt (h.vlt hn) (h'.vlt hn'))
set_option maxHeartbeats 2000000 in
/-- linkworkref01.Gcd -/
theorem r_Gcd_C (w : World) (b : Bool) (A : Option Addr) (n c : Nat) (l : List Nat) (wa : Wd w A n c l) (hn : n ≤ 1099511627000) (b' : Bool) (A' : Option Addr) (n' c' : Nat) (l' : List Nat) (wb : Wd w A' n' c' l') (hn' : n' ≤ 1099511627000) :
    Calls Tryz.prog 91 #[.agg #[.bool b, .slice A n c], .agg #[.bool b', .slice A' n' c']] w (RetW w (wh (Nat.gcd (WD.z ⟨b, l⟩).natAbs (WD.z ⟨b', l'⟩).natAbs : Nat))) := by
  have HL := Lib.hid wa.2.1
  have HL' := Lib.hid wb.2.1
  rw [z_nat, z_nat]
  go_enter Tryz.func91, Tryz.ntmps91
  go_wp2_with fail
  have b0 : Below w.heap.size w (((w.alloc (.cells #[.bool b, .slice A n c] 48)).alloc (.cells #[.bool b', .slice A' n' c'] 48)).alloc (.cells #[.bool false, .slice none 0 0] 48)) := ((((Below.refl _ _).alloc (Nat.le_refl _) _).alloc (by simp) _).alloc (by simp; omega) _)
  generalize hW0 : (((w.alloc (.cells #[.bool b, .slice A n c] 48)).alloc (.cells #[.bool b', .slice A' n' c'] 48)).alloc (.cells #[.bool false, .slice none 0 0] 48)) = W0 at b0 ⊢
  have c00 : W0.cell? ⟨w.heap.size, 0, none⟩ = some (.bool b) := by subst hW0; simp [go_sem]
  have f00 : W0.frozen? ⟨w.heap.size, 0, none⟩ = false := by subst hW0; simp [go_sem]
  have c01 : W0.cell? ⟨w.heap.size, 1, none⟩ = some (.slice A n c) := by subst hW0; simp [go_sem]
  have f01 : W0.frozen? ⟨w.heap.size, 1, none⟩ = false := by subst hW0; simp [go_sem]
  have c10 : W0.cell? ⟨w.heap.size + 1, 0, none⟩ = some (.bool b') := by subst hW0; simp [go_sem]
  have f10 : W0.frozen? ⟨w.heap.size + 1, 0, none⟩ = false := by subst hW0; simp [go_sem]
  have c11 : W0.cell? ⟨w.heap.size + 1, 1, none⟩ = some (.slice A' n' c') := by subst hW0; simp [go_sem]
  have f11 : W0.frozen? ⟨w.heap.size + 1, 1, none⟩ = false := by subst hW0; simp [go_sem]
  have c20 : W0.cell? ⟨w.heap.size + 1 + 1, 0, none⟩ = some (.bool false) := by subst hW0; simp [go_sem]
  have f20 : W0.frozen? ⟨w.heap.size + 1 + 1, 0, none⟩ = false := by subst hW0; simp [go_sem]
  have c21 : W0.cell? ⟨w.heap.size + 1 + 1, 1, none⟩ = some (.slice none 0 0) := by subst hW0; simp [go_sem]
  have f21 : W0.frozen? ⟨w.heap.size + 1 + 1, 1, none⟩ = false := by subst hW0; simp [go_sem]
  have x0 : Box W0 (w.heap.size) 48 := by subst hW0; exact ((boxAt _ _ _ (by simp)).alloc _).alloc _
  have x1 : Box W0 (w.heap.size + 1) 48 := by subst hW0; exact (boxAt _ _ _ (by simp)).alloc _
  have x2 : Box W0 (w.heap.size + 1 + 1) 48 := by subst hW0; exact boxAt _ _ _ (by simp)
  have hm0 : Made (w.heap.size + 1 + 1) (w.heap.size + 1 + 1 + 1) 2 W0 := by subst hW0; exact made1 (by simp)
  have hs0 : w.heap.size + 1 + 1 + 1 ≤ W0.heap.size := by subst hW0; simp
  clear hW0
  have wa := wa.belw b0
  have wb := wb.belw b0
  have r0 : Below W0.heap.size W0 W0 := brefl _
  have hRB : w.heap.size + 1 + 1 ≤ w.heap.size + 1 + 1 + 1 := by omega
  go_region_held3 (fun w' => Sees (w.heap.size + 1 + 1) W0 w') (first | exact Sees.of (Nat.le_trans hRB hs0) (by assumption) | exact Sees.of (Nat.le_trans hRB hs0) (below_drewN (by assumption) _) | exact (Sees.set (Sees.of (Nat.le_trans hRB hs0) (by assumption)) (by simp)) | exact (Sees.set (Sees.set (Sees.of (Nat.le_trans hRB hs0) (by assumption)) (by simp)) (by simp)))
    (first
      | (go_at_call 72; (with_reducible refine (r_mag_c _ b A n c l ?_ ?_).mono ?_); (exact wa); (omega); rintro e w1 ⟨A1, n1, c1, rfl, h1, hb1⟩; replace hb1 := bnext (below_drewN (brefl _) 1) hb1; have r1 := bnext r0 hb1; replace wa := wa.belw hb1; replace wb := wb.belw hb1)
      | (go_at_call 72; (with_reducible refine (r_mag_c _ b' A' n' c' l' ?_ ?_).mono ?_); (exact wb); (omega); rintro e w2 ⟨A2, n2, c2, rfl, h2, hb2⟩; have r2 := bnext r1 hb2; replace wa := wa.belw hb2; replace wb := wb.belw hb2; replace h1 := h1.belw hb2)
      | (go_at_call 131; (with_reducible refine (r_gcd_any _ A1 n1 c1 (WD.m ⟨b, l⟩) ?_ ?_ A2 n2 c2 (WD.m ⟨b', l'⟩) ?_ ?_).mono ?_); (exact h1); (exact h1.m_len (by rw [← HL.out]; exact hn)); (exact h2); (exact h2.m_len (by rw [← HL'.out]; exact hn')); rintro e w3 ⟨A3, n3, c3, rfl, h3, hb3⟩; have r3 := bnext r2 hb3; replace wa := wa.belw hb3; replace wb := wb.belw hb3; replace h1 := h1.belw hb3; replace h2 := h2.belw hb3)
      | (go_at_call 65; (with_reducible refine (r_form_e _ false A3 n3 c3 (digs (Nat.gcd (val (WD.m ⟨b, l⟩)) (val (WD.m ⟨b', l'⟩)))) (Nat.gcd (val (WD.m ⟨b, l⟩)) (val (WD.m ⟨b', l'⟩)) : Nat) ?_ ?_ ?_).mono ?_); (exact h3); (rw [h3.2.1]; exact gcd_len h1 h2 (Nat.le_trans (h1.m_len (by rw [← HL.out]; exact hn)) (by decide)) (Nat.le_trans (h2.m_len (by rw [← HL'.out]; exact hn')) (by decide))); (rw [val_digs]; rfl); rintro e w4 ⟨A4, n4, c4, rfl, h4, hb4⟩; have r4 := bnext r3 hb4; replace wa := wa.belw hb4; replace wb := wb.belw hb4; replace h1 := h1.belw hb4; replace h2 := h2.belw hb4; replace h3 := h3.belw hb4; obtain ⟨⟨sc, sf⟩, sr, sz⟩ := Seen.of (by omega) hs0 hm0 r4))
  clear hRB
  go_wp2_with fail
  refine bodyPost_ret (v := .agg #[.bool _, .slice A4 n4 c4]) (by simp [results, Tryz.results91, go_sem, sr]; rfl) rfl ?_
  have x := x2.below r4
  refine retW ?_ ?_ ?_
  · rfl
  · exact h4.keep (kp2 x (by decide) _ _ _ _)
  · exact ((b0.trans (r4.mono b0.size)).setCell (by dsimp only; omega) _).setCell (by dsimp only; omega) _
theorem r01_gcd (w : World) (b : Bool) (A : Option Addr) (n c : Nat) (z : Int) (k : Nat) (h : IZ w b A n c z k) (b' : Bool) (A' : Option Addr) (n' c' : Nat) (z' : Int) (k' : Nat) (h' : IZ w b' A' n' c' z' k') (hk : k + k' ≤ 1000000000) : Calls Tryz.prog 91 #[.agg #[.bool b, .slice A n c], .agg #[.bool b', .slice A' n' c']] w (RetI w (Nat.gcd z.natAbs z'.natAbs : Nat) (k + k')) := by
  have hz := h.mono (Nat.le_add_right k k') |>.lt
  have hz' := h'.mono (Nat.le_add_left k' k) |>.lt
  obtain ⟨l, h1, rfl, h3⟩ := h
  obtain ⟨l', h1', rfl, h3'⟩ := h'
  exact (r_Gcd_C w b A n c l h1 (by omega) b' A' n' c' l' h1' (by omega)).mono fun _ _ r => r.i (by simpa using gcd_lt hz hz')
end Go.Proofs.YtpnnfbodphflpaaGreatDoor

/- Walks: the reference's number of bits. -/
namespace Go.Proofs.YtpnnfbodphflpaaGreatDoor
open Go Go.RowKit Bn

theorem val_last {l : List Nat} (h : Wds l) (h0 : 0 < l.length) {t : Nat} (ht : wd l (l.length - 1) < 2 ^ t) : val l < 2 ^ (32 * (l.length - 1) + t) := by
  have e := Sm_ge l (Nat.le_refl _)
  obtain ⟨m, hm⟩ : ∃ m, l.length = m + 1 := ⟨l.length - 1, by omega⟩
  rw [hm] at e ht ⊢
  simp only [Nat.add_sub_cancel] at ht ⊢
  rw [Sm] at e
  have h1 : Sm (wd l) m < 4294967296 ^ m := Sm_lt (fun i _ => wd_lt h i)
  have h2 : (4294967296 : Nat) ^ m = 2 ^ (32 * m) := by rw [Nat.pow_mul]
  rw [h2] at h1 e
  rw [Nat.pow_add, ← e]
  have h3 : (wd l m + 1) * 2 ^ (32 * m) ≤ 2 ^ t * 2 ^ (32 * m) := Nat.mul_le_mul_right _ ht
  rw [Nat.add_mul] at h3
  rw [Nat.mul_comm (2 ^ (32 * m)) (2 ^ t)]
  omega
/-- What bits returns: a number of bits that is enough, and not too many. -/
def RetB (w : World) (v n : Nat) (e : Ending) (w' : World) : Prop := ∃ N : Nat, e = .returned (.int .i64 (N : Nat)) ∧ v < 2 ^ N ∧ N ≤ 32 * n ∧ w = w'
set_option maxRecDepth 100000 in
set_option maxHeartbeats 1000000 in
/-- linkworkref01.bits -/
theorem r_bits_c (w : World) (A : Option Addr) (n c : Nat) (l : List Nat) (wa : Wd w A n c l) (hn : n ≤ 1099511627776) :
    Calls Tryz.prog 171 #[.slice A n c] w (RetB w (val l) n) := by
  have HL := Lib.hid wa.2.1
  by_cases h0 : n = 0
  · subst h0
    have HE := Lib.hid (show val l = 0 by rw [List.eq_nil_of_length_eq_zero HL.out.symm]; rfl)
    clear wa
    go_enter Tryz.func171, Tryz.ntmps171
    go_wp2
    go_ret
    exact ⟨0, rfl, by rw [HE.out]; decide, by omega, rfl⟩
  · obtain ⟨g, o, rfl, hgl, hc⟩ := wa.at2 (by omega)
    have hck := hc (n - 1) (by omega)
    have hlt := wa.lt (n - 1)
    have hp : 0 < n := by omega
    have HW := Lib.hid wa.1
    obtain ⟨x0, hx0⟩ : ∃ x, wd l (n - 1) = x := ⟨_, rfl⟩
    rw [hx0] at hck hlt
    have HX := Lib.hid hx0
    clear hc h0 hx0 wa
    have hn0 : ((n : Int) == 0) = false := by simp; omega
    go_enter Tryz.func171, Tryz.ntmps171
    go_wp2_with fail
    go_loop [3, 4] (fun nv xv => ∃ (t x : Nat), t ≤ 32 ∧ nv = .int .i64 ((32 * (n - 1) + t : Nat) : Int) ∧ xv = .int .u32 (x : Nat) ∧ x < 4294967296 ∧ x = x0 / 2 ^ t) (fun _ xv => (intOf xv).toNat)
    case atStart => exact ⟨0, x0, by omega, by congr 1; omega, rfl, hlt, by simp⟩
    case round =>
      obtain ⟨t, x, ht, rfl, rfl, hx, he⟩ := hrel
      have HE := Lib.hid he
      clear he
      by_cases hz : x = 0
      · subst hz
        go_wp2
        go_ret
        refine ⟨32 * (n - 1) + t, rfl, ?_, by omega, rfl⟩
        have h1 : x0 < 2 ^ t := by
          have := HE.out
          rcases Nat.lt_or_ge x0 (2 ^ t) with h | h
          · exact h
          · have := Nat.div_pos h (Nat.pow_pos (by omega)); omega
        have := val_last HW.out (by rw [← HL.out]; exact hp) (t := t) (by rw [← HL.out, HX.out]; exact h1)
        rwa [← HL.out] at this
      · have ht2 : t < 32 := by
          rcases Nat.lt_or_ge t 32 with h | h
          · exact h
          · exfalso
            have e : t = 32 := by omega
            have := HE.out
            rw [e] at this
            have : x = 0 := by rw [this]; exact Nat.div_eq_of_lt hlt
            omega
        have hxp : 0 < x := by omega
        go_wp2
        go_round
        case rel => exact ⟨t + 1, x / 2, by omega, by congr 1 <;> omega, by congr 1 <;> omega, by omega, by rw [HE.out, Nat.pow_succ, Nat.div_div_eq_div_mul]⟩
        case measure => simp [intOf]; omega
end Go.Proofs.YtpnnfbodphflpaaGreatDoor

/- Walks: numbers of bits. -/
namespace Go.Proofs.YtpnnfbodphflpaaGreatDoor
open Go Go.RowKit Bn

set_option maxRecDepth 100000 in
set_option maxHeartbeats 1000000 in
/-- linkworkref01.bits, exactly -/
theorem r_bits_x (w : World) (A : Option Addr) (n c : Nat) (l : List Nat) (wa : Wd w A n c l) (hn : n ≤ 1099511627776) (hcl : Canon l) :
    Calls Tryz.prog 171 #[.slice A n c] w (RetV w (.int .i64 (blen (val l) : Nat))) := by
  have HL := Lib.hid wa.2.1
  by_cases h0 : n = 0
  · subst h0
    have HE := Lib.hid (show val l = 0 by rw [List.eq_nil_of_length_eq_zero HL.out.symm]; rfl)
    clear wa
    go_enter Tryz.func171, Tryz.ntmps171
    go_wp2
    go_ret
    exact ⟨by rw [HE.out]; rfl, brefl _⟩
  · obtain ⟨g, o, rfl, hgl, hc⟩ := wa.at2 (by omega)
    have hck := hc (n - 1) (by omega)
    have hlt := wa.lt (n - 1)
    have hp : 0 < n := by omega
    obtain ⟨x0, hx0⟩ : ∃ x, wd l (n - 1) = x := ⟨_, rfl⟩
    have hbl : blen (val l) = 32 * (n - 1) + blen x0 := by
      rw [← hx0]; exact blen_list hcl (by rw [← HL.out]; omega)
    have HB := Lib.hid hbl
    rw [hx0] at hck hlt
    clear hc h0 hx0 wa hbl
    have hn0 : ((n : Int) == 0) = false := by simp; omega
    go_enter Tryz.func171, Tryz.ntmps171
    go_wp2_with fail
    go_loop [3, 4] (fun nv xv => ∃ (t x : Nat), t ≤ 32 ∧ nv = .int .i64 ((32 * (n - 1) + t : Nat) : Int) ∧ xv = .int .u32 (x : Nat) ∧ x < 4294967296 ∧ x = x0 / 2 ^ t ∧ (t = 0 ∨ 2 ^ (t - 1) ≤ x0)) (fun _ xv => (intOf xv).toNat)
    case atStart => exact ⟨0, x0, by omega, by congr 1; omega, rfl, hlt, by simp, .inl rfl⟩
    case round =>
      obtain ⟨t, x, ht, rfl, rfl, hx, he, hlow⟩ := hrel
      have HE := Lib.hid he
      have HLO := Lib.hid hlow
      clear he hlow
      by_cases hz : x = 0
      · subst hz
        go_wp2
        go_ret
        refine ⟨?_, brefl _⟩
        have h1 : x0 < 2 ^ t := by
          have := HE.out
          rcases Nat.lt_or_ge x0 (2 ^ t) with h | h
          · exact h
          · have := Nat.div_pos h (Nat.pow_pos (by omega)); omega
        have h2 : blen x0 = t := by
          rcases HLO.out with e | e
          · subst e
            have : x0 = 0 := by simpa using h1
            subst this; rfl
          · rcases Nat.eq_zero_or_pos t with e0 | e0
            · subst e0
              have : x0 = 0 := by simpa using h1
              subst this; rfl
            · obtain ⟨s, rfl⟩ : ∃ s, t = s + 1 := ⟨t - 1, by omega⟩
              exact blen_of e h1
        rw [HB.out, h2]
        rfl
      · have ht2 : t < 32 := by
          rcases Nat.lt_or_ge t 32 with h | h
          · exact h
          · exfalso
            have e : t = 32 := by omega
            have := HE.out
            rw [e] at this
            have : x = 0 := by rw [this]; exact Nat.div_eq_of_lt hlt
            omega
        have hxp : 0 < x := by omega
        have HXP := Lib.hid (show 2 ^ t ≤ x0 by
          rcases Nat.lt_or_ge x0 (2 ^ t) with h | h
          · have := HE.out; rw [Nat.div_eq_of_lt h] at this; omega
          · exact h)
        go_wp2
        go_round
        case rel => exact ⟨t + 1, x / 2, by omega, by congr 1 <;> omega, by congr 1 <;> omega, by omega, by rw [HE.out, Nat.pow_succ, Nat.div_div_eq_div_mul], .inr HXP.out⟩
        case measure => simp [intOf]; omega
/-- bits.Len32 of a word -/
theorem len32_c (w : World) (x : Nat) (hx : x < 4294967296) : Calls Tryz.prog 139 #[.int .u32 (x : Nat)] w (RetV w (.int .i64 (blen x : Nat))) :=
  (Tryz.bits_Len32 x w (by omega) (by omega)).mono fun e w' ⟨he, hw⟩ => ⟨by rw [he, blen_word hx]; rfl, hw ▸ Below.refl _ _⟩
set_option maxRecDepth 100000 in
set_option maxHeartbeats 1000000 in
/-- integer.Bits -/
theorem bits_C (w : World) (b : Bool) (A : Option Addr) (n c : Nat) (l : List Nat) (wa : Wd w A n c l) (hn : n ≤ 1099511627000) :
    Calls Tryz.prog 102 #[.agg #[.bool b, .slice A n c]] w (RetV w (.int .i64 (blen (WD.z ⟨b, l⟩).natAbs : Nat))) := by
  have HL := Lib.hid wa.2.1
  have hcm : Canon (WD.m ⟨b, l⟩) := WD.canon_m wa.1
  obtain ⟨lm, hlm⟩ : ∃ lm, WD.m ⟨b, l⟩ = lm := ⟨_, rfl⟩
  rw [z_nat, hlm]
  rw [hlm] at hcm
  have HM := Lib.hid hlm
  have HC := Lib.hid hcm
  have b0 : Below w.heap.size w (w.alloc (.cells #[.bool b, .slice A n c] 48)) := (Below.refl _ _).alloc (Nat.le_refl _) _
  clear hlm hcm
  by_cases h0 : lm = []
  · subst h0
    go_enter Tryz.func102, Tryz.ntmps102
    go_wp2_with (go_at_call 66; (with_reducible refine (mag_c _ b A n c l ?_ ?_).mono ?_); (exact wa.belw b0); (omega); rintro e w1 ⟨A1, n1, c1, rfl, h1, hb1⟩; rw [HM.out] at h1; obtain rfl : n1 = 0 := h1.2.1)
    go_ret
    exact ⟨rfl, b0.trans (hb1.mono b0.size)⟩
  · obtain ⟨m, hm⟩ : ∃ m, lm.length = m + 1 := ⟨lm.length - 1, by have := List.length_pos_iff.2 h0; omega⟩
    have HB := Lib.hid (blen_list HC.out hm)
    obtain ⟨x, hx⟩ : ∃ x, wd lm m = x := ⟨_, rfl⟩
    have hx1 : x < 4294967296 := by rw [← hx]; exact wd_lt HC.out.1 m
    have HX := Lib.hid hx
    have hbx : blen x ≤ 32 := blen_le hx1
    clear h0 hx
    go_enter Tryz.func102, Tryz.ntmps102
    go_wp2_with (first
      | (go_at_call 66; (with_reducible refine (mag_c _ b A n c l ?_ ?_).mono ?_); (exact wa.belw b0); (omega); rintro e w1 ⟨A1, n1, c1, rfl, h1, hb1⟩; have hn1 : n1 ≤ 1099511627000 := h1.m_len (by rw [← HL.out]; exact hn); rw [HM.out] at h1; obtain rfl : n1 = m + 1 := h1.2.1.trans hm; obtain ⟨g, o, rfl, hgl, hcc⟩ := h1.at2 (by omega); have hck := hcc m (by omega); rw [HX.out] at hck; clear hcc)
      | (go_at_call 139; (with_reducible refine (len32_c _ x hx1).mono ?_); rintro e w2 ⟨rfl, hb2⟩))
    go_ret
    exact ⟨by rw [HB.out, HX.out]; rfl, (b0.trans (hb1.mono b0.size)).trans (hb2.mono (by have := hb1.size; have := b0.size; omega))⟩
end Go.Proofs.YtpnnfbodphflpaaGreatDoor

/- Walks: integer.Root. -/
namespace Go.Proofs.YtpnnfbodphflpaaGreatDoor
open Go Go.RowKit Bn

/-- An integer returned with something beside it. -/
def RetIe (w : World) (v : Value) (z : Int) (k : Nat) (e : Ending) (w' : World) : Prop := ∃ b A n c, e = .returned (.tuple #[.agg #[.bool b, .slice A n c], v]) ∧ IV w' b A n c z k ∧ Below w.heap.size w w'
/-- The root of an integer, and what is wrong with it. -/
def rootZ (z : Int) : Int := if z < 0 then 0 else (isq z.natAbs : Nat)
def rootE (z : Int) : Value := if z < 0 then .iface 71 (.int .i64 3) else .nilIface
theorem root_lt {z : Int} {k : Nat} (h : z.natAbs < 4294967296 ^ k) : (rootZ z).natAbs < 4294967296 ^ k := by
  unfold rootZ
  split
  · simp only [Int.natAbs_zero]; omega
  · simp only [Int.natAbs_natCast]
    refine Nat.lt_of_le_of_lt ?_ h
    have := isq_le z.natAbs
    rcases Nat.eq_zero_or_pos (isq z.natAbs) with e | e
    · omega
    · exact Nat.le_trans (Nat.le_mul_of_pos_right _ e) this
theorem down_1 (w : World) (A : Option Addr) (n c v : Nat) (wa : Wd w A n c (digs v)) (hn : n ≤ 1099511627776) :
    Calls Tryz.prog 103 #[.slice A n c, .int .i64 1] w (RetL w (digs (v / 2))) := by
  have := down_c w A n c (digs v) wa hn 1 (by omega)
  rw [val_digs, Nat.pow_one] at this
  exact this
theorem digs_n {w w1 : World} {A : Option Addr} {n c v k : Nat} (h : Wd w A n c (digs v)) {u : Nat} (hv : v ≤ u) {A' : Option Addr} {n' c' : Nat} (h' : Wd w1 A' n' c' (digs u)) (hk : n' ≤ k) : n ≤ k := by
  rw [h.2.1]
  refine Nat.le_trans (length_digs_le (Nat.lt_of_le_of_lt hv ?_)) hk
  have := h'.vlt (Nat.le_refl _)
  rwa [val_digs] at this
theorem digs_add_n {w w1 w2 : World} {A : Option Addr} {n c u v : Nat} (h : Wd w A n c (digs (u + v))) {A' : Option Addr} {n' c' : Nat} (h' : Wd w1 A' n' c' (digs u)) {A2 : Option Addr} {n2 c2 : Nat} (h2 : Wd w2 A2 n2 c2 (digs v)) : n ≤ n' + n2 + 1 := by
  rw [h.2.1]
  apply length_digs_le
  have h3 := h'.vlt (Nat.le_refl _)
  have h4 := h2.vlt (Nat.le_refl _)
  rw [val_digs] at h3 h4
  have h5 : 4294967296 ^ n' ≤ 4294967296 ^ (n' + n2) := Nat.pow_le_pow_right (by omega) (by omega)
  have h6 : 4294967296 ^ n2 ≤ 4294967296 ^ (n' + n2) := Nat.pow_le_pow_right (by omega) (by omega)
  rw [Nat.pow_succ]
  omega
/-- How Newton's loop stands. -/
def NewtI (M K : Nat) (W0 wr : World) (x : Value) : Prop := ∃ A1 n1 c1 X, x = .slice A1 n1 c1 ∧ n1 ≤ K ∧ Kept (Wd wr A1 n1 c1 (digs X) ∧ isq M ≤ X ∧ 0 < X) ∧ Below W0.heap.size W0 wr
set_option maxRecDepth 100000 in
set_option maxHeartbeats 4000000 in
/-- integer.Root -/
theorem root_C (w : World) (b : Bool) (A : Option Addr) (n c : Nat) (l : List Nat) (k : Nat) (wa : Wd w A n c l) (hk : n ≤ k) (hn : k ≤ 1000000000) :
    Calls Tryz.prog 53 #[.agg #[.bool b, .slice A n c]] w (RetIe w (rootE (WD.z ⟨b, l⟩)) (rootZ (WD.z ⟨b, l⟩)) k) := by
  have hzlt : (rootZ (WD.z ⟨b, l⟩)).natAbs < 4294967296 ^ k := root_lt (WD.z_lt wa hk)
  have HL := Lib.hid wa.2.1
  have HZL := Lib.hid hzlt
  have hcm : Canon (WD.m ⟨b, l⟩) := WD.canon_m wa.1
  obtain ⟨M, hM⟩ : ∃ M, WD.m ⟨b, l⟩ = digs M := ⟨_, (digs_val hcm).symm⟩
  have hze := WD.z_eq ⟨b, l⟩
  rw [hM, val_digs] at hze
  obtain ⟨Z, hZ⟩ : ∃ Z, WD.z ⟨b, l⟩ = Z := ⟨_, rfl⟩
  rw [hZ] at hze hzlt ⊢
  have HZ := Lib.hid hZ
  have HM := Lib.hid hM
  have b1 : Below w.heap.size w ((w.alloc (.cells #[.bool b, .slice A n c] 48)).alloc (.cells #[.bool false, .slice none 0 0] 48)) := ((Below.refl _ _).alloc (Nat.le_refl _) _).alloc (by simp) _
  have x1 : Blk ((w.alloc (.cells #[.bool b, .slice A n c] 48)).alloc (.cells #[.bool false, .slice none 0 0] 48)) w.heap.size 48 #[.bool b, .slice A n c] := (blkAt _ _ _ rfl).alloc _
  have y1 : Blk ((w.alloc (.cells #[.bool b, .slice A n c] 48)).alloc (.cells #[.bool false, .slice none 0 0] 48)) (w.heap.size + 1) 48 #[.bool false, .slice none 0 0] := blkAt _ _ _ (by simp)
  clear hzlt hM hcm hZ
  cases hs : WD.s ⟨b, l⟩ with
  | true =>
    have HS := Lib.hid hs
    rw [hs] at hze
    have hMp : 0 < M := by
      rcases Nat.eq_zero_or_pos M with e | e
      · exfalso
        have h1 := HM.out
        rw [e, digs_zero] at h1
        unfold WD.s at hs
        unfold WD.m at h1
        cases ho : WD.ok ⟨b, l⟩
        · rw [ho] at hs; exact absurd hs (by simp)
        · rw [ho] at hs h1
          simp only [if_true] at h1
          simp only [Bool.true_and] at hs
          subst hs
          subst h1
          exact absurd ho (by decide)
      · exact e
    have hZn : Z < 0 := by rw [hze]; simp [sgn]; omega
    have hRE : rootE Z = .iface 71 (.int .i64 3) := by unfold rootE; rw [if_pos hZn]
    have hRZ : rootZ Z = 0 := by unfold rootZ; rw [if_pos hZn]
    rw [hRE, hRZ]
    clear hRE hRZ hZn hze hMp hs
    go_enter Tryz.func53, Tryz.ntmps53
    go_wp2_with (go_at_call 71; (with_reducible refine (neg_e _ b A n c l true ?_ ?_ HS.out).mono ?_); (exact wa.belw b1); (omega); rintro e w2 ⟨rfl, hb2⟩; have x2 := x1.below hb2 x1.lt; have y2 := y1.below hb2 y1.lt; obtain ⟨cx0, cx1⟩ := x2.c2; obtain ⟨cy0, cy1⟩ := y2.c2; obtain ⟨fy0, fy1⟩ := y2.f2)
    refine bodyPost_ret (v := .tuple #[.agg #[.bool false, .slice none 0 0], .iface 71 (.int .i64 3)]) (by simp [results, Tryz.results53, go_sem, *] <;> first | rfl | exact ⟨rfl, rfl⟩) rfl ?_
    exact ⟨_, _, _, _, rfl, IV.zero _ _, ((b1.trans (hb2.mono b1.size)).setCell (by dsimp only; omega) _).setCell (by dsimp only; omega) _⟩
  | false =>
    have HS := Lib.hid hs
    rw [hs] at hze
    have hZM : Z = M := by rw [hze]; rfl
    have hZn : ¬ Z < 0 := by omega
    have hRE : rootE Z = .nilIface := by unfold rootE; rw [if_neg hZn]
    have hRZ : rootZ Z = (isq M : Nat) := by unfold rootZ; rw [if_neg hZn, show Z.natAbs = M by omega]
    rw [hRE, hRZ]
    have HR := Lib.hid hRZ
    clear hRE hRZ hZn hze hs
    by_cases hM0 : M = 0
    · subst hM0
      go_enter Tryz.func53, Tryz.ntmps53
      go_wp2_with (first
        | (go_at_call 71; (with_reducible refine (neg_e _ b A n c l false ?_ ?_ HS.out).mono ?_); (exact wa.belw b1); (omega); rintro e w2 ⟨rfl, hb2⟩; have x2 := x1.below hb2 x1.lt; have y2 := y1.below hb2 y1.lt; have b2 := b1.trans (hb2.mono b1.size); obtain ⟨cx0, cx1⟩ := x2.c2)
        | (go_at_call 66; (with_reducible refine (mag_c _ b A n c l ?_ ?_).mono ?_); (exact wa.belw b2); (omega); rintro e w3 ⟨A1, n1, c1, rfl, h1, hb3⟩; rw [HM.out, digs_zero] at h1; obtain rfl : n1 = 0 := h1.2.1; have b3 := b2.trans (hb3.mono b2.size); have y3 := y2.below hb3 y2.lt; obtain ⟨cy0, cy1⟩ := y3.c2; obtain ⟨fy0, fy1⟩ := y3.f2))
      refine bodyPost_ret (v := .tuple #[.agg #[.bool false, .slice none 0 0], .nilIface]) (by simp [results, Tryz.results53, go_sem, *] <;> first | rfl | exact ⟨rfl, rfl⟩) rfl ?_
      exact ⟨_, _, _, _, rfl, by rw [show isq 0 = 0 from rfl]; exact IV.zero _ _, (b3.setCell (by dsimp only; omega) _).setCell (by dsimp only; omega) _⟩
    · have hMp : 0 < M := Nat.pos_of_ne_zero hM0
      obtain ⟨N, hN⟩ : ∃ N, blen M = N := ⟨_, rfl⟩
      have hNz : blen (WD.z ⟨b, l⟩).natAbs = N := by rw [HZ.out, hZM]; simpa using hN
      obtain ⟨j, hj⟩ : ∃ j, (N + 1) / 2 = j := ⟨_, rfl⟩
      obtain ⟨i, hi⟩ : ∃ i, j / 32 = i := ⟨_, rfl⟩
      obtain ⟨s, hs⟩ : ∃ s, j % 32 = s := ⟨_, rfl⟩
      have hs32 : s < 32 := by omega
      have e3 : ((N : Int) + 1) / 2 = (j : Int) := by omega
      have e4 : (j : Int) / 32 = (i : Int) := by omega
      have e5 : (j : Int) % 32 = (s : Int) := by omega
      have HI := Lib.hid hi
      have HSS := Lib.hid hs
      have hN2 : N ≤ 32 * 1000000000 := by rw [← hN]; exact blen_max (Nat.le_trans hk hn) (by have := WD.z_lt (b := b) wa (Nat.le_refl n); rw [HZ.out, hZM] at this; simpa using this)
      have HN := Lib.hid hN
      have HNZ := Lib.hid hNz
      have HJ := Lib.hid hj
      have HMP := Lib.hid hMp
      clear hM0 hMp hN hNz hi hs hj
      have hi2 : i ≤ 1000000000 := by have := HI.out; have := HJ.out; omega
      go_enter Tryz.func53, Tryz.ntmps53
      go_wp2_with (first
        | (go_at_call 71; (with_reducible refine (neg_e _ b A n c l false ?_ ?_ HS.out).mono ?_); (exact wa.belw b1); (omega); rintro e w2 ⟨rfl, hb2⟩; have x2 := x1.below hb2 x1.lt; have y2 := y1.below hb2 y1.lt; have b2 := b1.trans (hb2.mono b1.size); obtain ⟨cx0, cx1⟩ := x2.c2)
        | (go_at_call 66; (with_reducible refine (mag_c _ b A n c l ?_ ?_).mono ?_); (exact wa.belw b2); (omega); rintro e w3 ⟨A1, n1, c1, rfl, h1, hb3⟩; have hn1 : n1 ≤ k := h1.m_len (by rw [← HL.out]; exact hk); rw [HM.out] at h1; have e1 : ((n1 : Int) == 0) = false := (by have h9 : n1 ≠ 0 := (fun e => by have h8 := h1.2.1; rw [e] at h8; exact absurd (digs_eq_nil.1 (List.eq_nil_of_length_eq_zero h8.symm)) (by have := HMP.out; omega)); simp; exact h9); have b3 := b2.trans (hb3.mono b2.size); have x3 := x2.below hb3 x2.lt; have y3 := y2.below hb3 y2.lt; clear cx0 cx1; obtain ⟨cx0, cx1⟩ := x3.c2)
        | (go_at_call 102; (with_reducible refine (bits_C _ b A n c l ?_ ?_).mono ?_); (exact wa.belw b3); (omega); rw [HNZ.out]; rintro e w4 ⟨rfl, hb4⟩; have b4 := b3.trans (hb4.mono b3.size); have y4 := y3.below hb4 y3.lt; have h4 := h1.belw hb4)
        | (at_make; refine wpList_make_words _ rfl _ _ rfl _ _ _ _ (i + 1) rfl rfl (by omega) (by omega) (by omega) ?_; have z5 := Blk.new w4 84 (cellsOf (List.replicate (i + 1) 0)); have fz := z5.frozen i; have cz := z5.cell i; rw [cellsOf_get (by simp)] at cz))
      have z6 : Blk (w4.alloc (.cells ((cellsOf (List.replicate (i + 1) 0)).setIfInBounds i (.int .u32 (2 ^ s % 4294967296))) 84)) w4.heap.size 84 (cellsOf (digs (2 ^ j))) := by
        obtain ⟨h5, h6⟩ := root_first HI.out HSS.out
        rw [← h5, ← cellsOf_set]
        have : (2 ^ s % 4294967296 : Int) = ((2 ^ s : Nat) : Int) := by
          have hh : ((2 : Int) ^ s) = ((2 ^ s : Nat) : Int) := by simp
          rw [hh]
          clear hh
          generalize 2 ^ s = p at h6 ⊢
          omega
        rw [this]
        exact Blk.new _ _ _
      have b6 : Below w4.heap.size w4 (w4.alloc (.cells ((cellsOf (List.replicate (i + 1) 0)).setIfInBounds i (.int .u32 (2 ^ s % 4294967296))) 84)) := (Below.refl _ _).alloc (Nat.le_refl _) _
      clear z5 fz cz
      generalize (w4.alloc (.cells ((cellsOf (List.replicate (i + 1) 0)).setIfInBounds i (.int .u32 (2 ^ s % 4294967296))) 84)) = W5 at z6 b6 ⊢
      have h6 := h4.belw b6
      have b7 := b4.trans (b6.mono b4.size)
      have y6 := y4.below b6 y4.lt
      have w6 := z6.wd_ (canon_digs (2 ^ j)).1
      have hl6 : (digs (2 ^ j)).length = i + 1 := by
        rw [← (root_first HI.out HSS.out).1]; simp
      rw [hl6] at w6
      have hst : isq M ≤ 2 ^ j := by
        have := root_start (M := M) (N := N) (by rw [← HN.out]; exact lt_blen M)
        rw [HJ.out] at this
        omega
      have hat : NewtI M (i + 1) W5 W5 (.slice (some ⟨w4.heap.size, 0, none⟩) (i + 1) (i + 1)) := ⟨_, _, _, 2 ^ j, rfl, Nat.le_refl _, ⟨w6, hst, Nat.pow_pos (by omega)⟩, brefl _⟩
      clear z6 w6 hst hl6 e3 e4 e5 b6 h4 y4 cx0 cx1 x3 y3 x2 y2
      go_loopw [6] (fun xv wr => NewtI M (i + 1) W5 wr xv) (fun xv wr => valOf wr xv)
      case atStart => exact hat
      case round =>
        obtain ⟨A5, n5, c5, X, rfl, hn5, hK, rr⟩ := hrel
        have hm5 : valOf wr (.slice A5 n5 c5) = X := by rw [hK.1.valOf, val_digs]
        obtain ⟨Y, hY⟩ : ∃ Y, (X + M / X) / 2 = Y := ⟨_, rfl⟩
        have HY := Lib.hid hY
        have HX0 := Lib.hid (show val (digs X) ≠ 0 by rw [val_digs]; have := hK.2.2; omega)
        have hm6 := h6.belw rr
        clear hY
        by_cases hXY : X ≤ Y
        · obtain ⟨kk, hkk⟩ : ∃ kk, cmpN Y X = kk := ⟨_, rfl⟩
          have e7 : (0 ≤ kk) = True := by rw [← hkk, cmpN_le]; simpa using hXY
          have HKK := Lib.hid hkk
          have HS2 := Lib.hid (newton_end hK.2.2 hK.2.1 (by rw [HY.out]; exact hXY))
          clear hkk hXY
          have y7 := y6.below rr y6.lt
          go_wp2_with (first
            | (go_at_call 100; (with_reducible refine (divide_c _ A1 n1 c1 (digs M) ?_ ?_ A5 n5 c5 (digs X) ?_ ?_ ?_ ?_ ?_).mono ?_); (exact hm6); omega; (exact hK.1); omega; (exact canon_digs _); (exact canon_digs _); (exact HX0.out); rintro e w7 ⟨A6, n6, c6, A7, n7, c7, rfl, h7, h8, hb7⟩; rw [val_digs, val_digs] at h7 h8; have hn6 : n6 ≤ k := digs_n h7 (Nat.div_le_self _ _) hm6 hn1; have h9 := hK.1.belw hb7; have y8 := y7.below hb7 y7.lt)
            | (go_at_call 59; (with_reducible refine (plus_c _ A5 n5 c5 (digs X) ?_ ?_ A6 n6 c6 (digs (M / X)) ?_ ?_).mono ?_); (exact h9); omega; (exact h7); omega; rintro e w8 ⟨A8, n8, c8, rfl, h10, hb8⟩; rw [val_digs, val_digs] at h10; have hn8 : n8 ≤ 1099511627776 := Nat.le_trans (digs_add_n h10 h9 h7) (by omega))
            | (go_at_call 103; (with_reducible refine (down_1 _ A8 n8 c8 (X + M / X) ?_ ?_).mono ?_); (exact h10); omega; rintro e w9 ⟨A9, n9, c9, rfl, h11, hb9⟩; rw [HY.out] at h11; have hn9 : n9 ≤ 1099511627776 := digs_n h11 (by rw [← HY.out]; exact Nat.div_le_self _ _) h10 hn8)
            | (go_at_call 77; (with_reducible refine (compare_e _ A9 n9 c9 (digs Y) ?_ ?_ A5 n5 c5 (digs X) ?_ ?_ ?_ ?_ kk ?_).mono ?_); (exact h11); omega; (exact (h9.belw hb8).belw hb9); omega; (exact canon_digs _); (exact canon_digs _); (rw [val_digs, val_digs]; exact HKK.out); rintro e w10 ⟨rfl, hb10⟩)
            | (go_at_call 62; (with_reducible refine (whole_e _ false A5 n5 c5 (digs X) (isq M : Nat) ?_ ?_ ?_).mono ?_); (exact ((h9.belw hb8).belw hb9).belw hb10); omega; (rw [val_digs, HS2.out]; rfl); rintro e w11 ⟨A11, n11, c11, rfl, h12, hb11⟩; have y11 := (((y8.below hb8 y8.lt).below hb9 (Nat.lt_of_lt_of_le y8.lt hb8.size)).below hb10 (Nat.lt_of_lt_of_le y8.lt (Nat.le_trans hb8.size hb9.size))).below hb11 (Nat.lt_of_lt_of_le y8.lt (Nat.le_trans (Nat.le_trans hb8.size hb9.size) hb10.size)); obtain ⟨cy0, cy1⟩ := y11.c2; obtain ⟨fy0, fy1⟩ := y11.f2))
          have bb : Below wr.heap.size wr w11 := (((hb7.trans (hb8.mono hb7.size)).trans (hb9.mono (Nat.le_trans hb7.size hb8.size))).trans (hb10.mono (Nat.le_trans (Nat.le_trans hb7.size hb8.size) hb9.size))).trans (hb11.mono (Nat.le_trans (Nat.le_trans (Nat.le_trans hb7.size hb8.size) hb9.size) hb10.size))
          have bt := (b7.trans (rr.mono b7.size)).trans (bb.mono (Nat.le_trans b7.size rr.size))
          refine bodyPost_ret (v := .tuple #[.agg #[.bool _, .slice A11 n11 c11], .nilIface]) (by simp [results, Tryz.results53, go_sem, *] <;> first | rfl | exact ⟨rfl, rfl⟩) rfl ?_
          refine ⟨_, _, _, _, rfl, (IV.mk_ (h12.keep (kp2 ⟨_, _, y11⟩ (by decide) _ _ _ _)) rfl ?_), (bt.setCell (by dsimp only; omega) _).setCell (by dsimp only; omega) _⟩
          rw [← HR.out, ← HZ.out]
          exact HZL.out
        · obtain ⟨kk, hkk⟩ : ∃ kk, cmpN Y X = kk := ⟨_, rfl⟩
          have e7 : (0 ≤ kk) = False := by rw [← hkk, cmpN_le]; simpa using hXY
          have HKK := Lib.hid hkk
          have HNG := Lib.hid (newton_ge (m := M) hK.2.2)
          have HLT := Lib.hid (Nat.lt_of_not_le hXY)
          have y7 := y6.below rr y6.lt
          clear hkk hXY
          go_wp2_with (first
            | (go_at_call 100; (with_reducible refine (divide_c _ A1 n1 c1 (digs M) ?_ ?_ A5 n5 c5 (digs X) ?_ ?_ ?_ ?_ ?_).mono ?_); (exact hm6); omega; (exact hK.1); omega; (exact canon_digs _); (exact canon_digs _); (exact HX0.out); rintro e w7 ⟨A6, n6, c6, A7, n7, c7, rfl, h7, h8, hb7⟩; rw [val_digs, val_digs] at h7 h8; have hn6 : n6 ≤ k := digs_n h7 (Nat.div_le_self _ _) hm6 hn1; have h9 := hK.1.belw hb7; have y8 := y7.below hb7 y7.lt)
            | (go_at_call 59; (with_reducible refine (plus_c _ A5 n5 c5 (digs X) ?_ ?_ A6 n6 c6 (digs (M / X)) ?_ ?_).mono ?_); (exact h9); omega; (exact h7); omega; rintro e w8 ⟨A8, n8, c8, rfl, h10, hb8⟩; rw [val_digs, val_digs] at h10; have hn8 : n8 ≤ 1099511627776 := Nat.le_trans (digs_add_n h10 h9 h7) (by omega))
            | (go_at_call 103; (with_reducible refine (down_1 _ A8 n8 c8 (X + M / X) ?_ ?_).mono ?_); (exact h10); omega; rintro e w9 ⟨A9, n9, c9, rfl, h11, hb9⟩; rw [HY.out] at h11; have hn9 : n9 ≤ 1099511627776 := digs_n h11 (by rw [← HY.out]; exact Nat.div_le_self _ _) h10 hn8)
            | (go_at_call 77; (with_reducible refine (compare_e _ A9 n9 c9 (digs Y) ?_ ?_ A5 n5 c5 (digs X) ?_ ?_ ?_ ?_ kk ?_).mono ?_); (exact h11); omega; (exact (h9.belw hb8).belw hb9); omega; (exact canon_digs _); (exact canon_digs _); (rw [val_digs, val_digs]; exact HKK.out); rintro e w10 ⟨rfl, hb10⟩))
          have bb : Below w7.heap.size w7 w10 := (hb8.trans (hb9.mono hb8.size)).trans (hb10.mono (Nat.le_trans hb8.size hb9.size))
          go_roundw
          case rel =>
            refine ⟨A9, n9, c9, Y, rfl, digs_n (h11.belw hb10) (Nat.le_of_lt HLT.out) hK.1 hn5, ⟨h11.belw hb10, ?_, ?_⟩, (rr.trans (hb7.mono rr.size)).trans (bb.mono (Nat.le_trans rr.size hb7.size))⟩
            · rw [← HY.out]; exact HNG.out
            · have := HNG.out; rw [HY.out] at this; have := isq_pos HMP.out; omega
          case measure => rw [(h11.belw hb10).valOf, hm5, val_digs]; exact HLT.out
end Go.Proofs.YtpnnfbodphflpaaGreatDoor

/- Walks: the reference's times, Mul. -/
namespace Go.Proofs.YtpnnfbodphflpaaGreatDoor
open Go Go.RowKit Bn
attribute [local go_sem ↓] Go.wp_at_zero Go.wp_at_succ
set_option maxHeartbeats 1000000 in
/-- linkworkref01.times -/
theorem r_times_c (w : World) (A : Option Addr) (n c : Nat) (l : List Nat) (wa : Wd w A n c l) (hn : n ≤ 1099511627776) (A' : Option Addr) (n' c' : Nat) (l' : List Nat) (wb : Wd w A' n' c' l') (hn' : n' ≤ 1099511627776) :
    Calls Tryz.prog 64 #[.slice A n c, .slice A' n' c'] w (RetL w (digs (val l * val l'))) := by
  have HL := Lib.hid wa.2.1
  have HL' := Lib.hid wb.2.1
  go_enter Tryz.func64, Tryz.ntmps64
  go_wp2_with (at_make; refine wpList_make_words _ rfl _ _ rfl _ _ _ _ (n + n') rfl rfl (by omega) (by omega) (by omega) ?_)
  go_loopw [18] (fun iv wr => ∃ (i : Nat) (L : List Nat), i ≤ n ∧ iv = .int .i64 (i : Nat) ∧ L.length = n + n' ∧ TimesO l l' L (n + n') n' i ∧ Blk wr w.heap.size 84 (cellsOf L) ∧ Below w.heap.size w wr) (fun iv _ => n - (intOf iv).toNat)
  case atStart =>
    refine ⟨0, List.replicate (n + n') 0, Nat.zero_le _, rfl, by simp, ⟨by intro x hx; rw [List.eq_of_mem_replicate hx]; omega, fun j _ => ?_, ?_⟩, Blk.new _ _ _, (Below.refl _ _).alloc (Nat.le_refl _) _⟩
    · unfold wd; by_cases hj : j < n + n' <;> simp [List.getD, hj]
    · rw [Sm]
      have : ∀ m, Sm (wd (List.replicate (n + n') 0)) m = 0 := by
        intro m
        induction m with
        | zero => rfl
        | succ m ih =>
          rw [Sm, ih]
          unfold wd; by_cases hj : m < n + n' <;> simp [List.getD, hj]
      rw [this]; simp
  case round =>
    obtain ⟨i, L, hi, rfl, hLM, hI, hB, hbel⟩ := hrel
    have hKp := Lib.hid ((Kp.refl w).below hbel)
    have HI := Lib.hid hI
    have HB := Lib.hid hB
    have HLM := Lib.hid hLM
    clear hI hB hLM
    by_cases hkM : i < n
    · obtain ⟨x, hx⟩ : ∃ x, wd l i = x := ⟨_, rfl⟩
      have hx1 : x < 4294967296 := by rw [← hx]; exact wa.lt i
      have HX := Lib.hid hx
      clear hx
      go_wp2_with fail
      obtain ⟨wo, hwo⟩ : ∃ wo : World, wo = wr := ⟨_, rfl⟩
      have HWO := Lib.hid hwo
      clear hwo
      go_loopw [7, 23] (fun cv kv w2 => ∃ (k cr : Nat) (L2 : List Nat), k ≤ n' ∧ kv = .int .i64 (k : Nat) ∧ cv = .int .u64 (cr : Nat) ∧ cr < 4294967296 ∧ L2.length = n + n' ∧ TimesN l l' L2 (n + n') n' i x k cr ∧ Blk w2 w.heap.size 84 (cellsOf L2) ∧ Below w.heap.size w w2) (fun _ kv _ => n' - (intOf kv).toNat)
      case atStart => exact ⟨0, 0, L, Nat.zero_le _, rfl, rfl, by omega, HLM.out, ⟨HI.out.1, HI.out.2.1, by rw [HI.out.2.2]; simp [Sm]⟩, HB.out, hbel⟩
      case round =>
        obtain ⟨k, cr, L2, hk, rfl, rfl, hcr, hLM2, hI2, hB2, hbel2⟩ := hrel
        have hKp2 := Lib.hid ((Kp.refl w).below hbel2)
        have HI2 := Lib.hid hI2
        have HB2 := Lib.hid hB2
        have HLM2 := Lib.hid hLM2
        clear hI2 hB2 hLM2
        by_cases hkk : k < n'
        · obtain ⟨g2, o2, rfl, hgl2, hc2⟩ := (wb.keep hKp2.out).at2 (by omega)
          obtain ⟨g, o, rfl, hgl, hc1⟩ := (wa.keep hKp2.out).at2 (by omega)
          have hcx := hc1 i hkM
          rw [HX.out] at hcx
          clear hc1
          have hcy := hc2 k hkk
          obtain ⟨y, z, hy, hz⟩ : ∃ y z, wd l' k = y ∧ wd L2 (i + k) = z := ⟨_, _, rfl, rfl⟩
          have hy1 : y < 4294967296 := by rw [← hy]; exact wb.lt k
          have hz1 : z < 4294967296 := by rw [← hz]; exact wd_lt HI2.out.1 _
          rw [hy] at hcy
          have hck := HB2.out.cell (i + k)
          rw [cellsOf_get (by rw [HLM2.out]; omega), hz] at hck
          have hfk := HB2.out.frozen (i + k)
          have HY := Lib.hid hy
          have HZ := Lib.hid hz
          clear hy hz hc2
          obtain ⟨p, hp⟩ : ∃ d, IntKind.u64.wrap ((x : Int) * (y : Int)) = d := ⟨_, rfl⟩
          obtain ⟨q, hq⟩ : ∃ d, IntKind.u64.wrap (p + (z : Int)) = d := ⟨_, rfl⟩
          obtain ⟨s, hs⟩ : ∃ d, IntKind.u64.wrap (q + (cr : Int)) = d := ⟨_, rfl⟩
          have HD := Lib.hid (times_word hx1 hy1 hz1 hcr hp hq (show IntKind.u64.wrap ((cr : Int) + q) = s by rw [Int.add_comm]; exact hs))
          go_wp2
          go_quiet (fail)
          go_wp2
          obtain ⟨es, hs2⟩ := HD.out
          clear hp hq hs
          go_roundw
          case rel =>
            refine ⟨k + 1, (cr + x * y + z) / 4294967296, L2.set (i + k) ((cr + x * y + z) % 4294967296), by omega, by go_num, by rw [es]; go_num, hs2, by rw [List.length_set]; exact HLM2.out, ⟨wds_set HI2.out.1 _ (Nat.mod_lt _ (by omega)), ?_, ?_⟩, ?_, (below_drewN hbel2 _).setCell (Nat.le_refl _) _⟩
            · intro j hj; rw [wd_set, if_neg (by omega)]; exact HI2.out.2.1 j hj
            · have hm := Sm_set_mid L2 (i + k) ((cr + x * y + z) % 4294967296) (n + n') (by rw [HLM2.out]; omega) (by omega)
              rw [HZ.out] at hm
              have ht := times_step (o := z) (x := x) (y := y) (Sb := Sm (wd l') k) (Pi := 4294967296 ^ i) (Pk := 4294967296 ^ k) HI2.out.2.2 (by rw [Nat.pow_add]) hm
              rw [← Nat.add_assoc, Nat.pow_succ, Sm, HY.out]
              exact ht
            · exact (HB2.out.below (below_drewN (brefl _) _) HB2.out.lt).setW (i + k) _ _ (by rw [es]; omega)
          case measure => simp [intOf]; omega
        · have hk2 : k = n' := by omega
          have HK2 := Lib.hid hk2
          have hck := HB2.out.cell (i + n')
          have hz : wd L2 (i + n') = 0 := HI2.out.2.1 _ (by omega)
          rw [cellsOf_get (by rw [HLM2.out]; omega), hz] at hck
          have hfk := HB2.out.frozen (i + n')
          have hge : n' ≤ k := by omega
          clear hk2 hkk hz
          go_wp2
          go_roundw
          case rel =>
            refine ⟨i + 1, L2.set (i + n') cr, by omega, by go_num, by rw [List.length_set]; exact HLM2.out, ⟨wds_set HI2.out.1 _ hcr, ?_, ?_⟩, ?_, hbel2.setCell (Nat.le_refl _) _⟩
            · intro j hj; rw [wd_set, if_neg (by omega)]; exact HI2.out.2.1 j (by omega)
            · have hm := Sm_set_mid L2 (i + n') cr (n + n') (by rw [HLM2.out]; omega) (by omega)
              rw [HI2.out.2.1 _ (by omega), Nat.zero_mul, Nat.add_zero] at hm
              have h2 := HI2.out.2.2
              rw [HK2.out, Sm_ge l' (by rw [← HL'.out]; exact Nat.le_refl _)] at h2
              rw [hm, h2, Sm, HX.out, Nat.add_mul]
              congr 1
              rw [Nat.mul_assoc, Nat.mul_comm (val l'), ← Nat.mul_assoc]
            · exact HB2.out.setW (i + n') _ _ rfl
          case measure => simp [intOf]; omega
    · have hkk : i = n := by omega
      subst hkk
      have hv2 : val L = val l * val l' := by
        have h1 := HI.out.2.2
        rw [Sm_ge L (by rw [HLM.out]; exact Nat.le_refl _), Sm_ge l (by rw [← HL.out]; omega)] at h1
        exact h1
      have HV2 := Lib.hid hv2
      clear hv2
      go_wp2_with fail
      refine (r_trim_c _ _ (i + n') (i + n') L ?_ ?_).mono ?_
      · exact HB.out.wdN HI.out.1 HLM.out
      · omega
      rintro e w1 ⟨A1, n1, c1, rfl, h1, hb1⟩
      go_wp2
      go_ret
      rw [HV2.out] at h1
      exact ⟨_, _, _, rfl, h1, hbel.trans (hb1.mono hbel.size)⟩
set_option maxHeartbeats 2000000 in
/-- integer.Mul -/
theorem r_mul_C (w : World) (b : Bool) (A : Option Addr) (n c : Nat) (l : List Nat) (wa : Wd w A n c l) (hn : n ≤ 500000000000) (b' : Bool) (A' : Option Addr) (n' c' : Nat) (l' : List Nat) (wb : Wd w A' n' c' l') (hn' : n' ≤ 500000000000) :
    Calls Tryz.prog 96 #[.agg #[.bool b, .slice A n c], .agg #[.bool b', .slice A' n' c']] w (RetW w (wh (WD.z ⟨b, l⟩ * WD.z ⟨b', l'⟩))) := by
  have HL := Lib.hid wa.2.1
  have HL' := Lib.hid wb.2.1
  go_enter Tryz.func96, Tryz.ntmps96
  go_wp2_with fail
  have b0 : Below w.heap.size w (((w.alloc (.cells #[.bool b, .slice A n c] 48)).alloc (.cells #[.bool b', .slice A' n' c'] 48)).alloc (.cells #[.bool false, .slice none 0 0] 48)) := ((((Below.refl _ _).alloc (Nat.le_refl _) _).alloc (by simp) _).alloc (by simp; omega) _)
  generalize hW0 : (((w.alloc (.cells #[.bool b, .slice A n c] 48)).alloc (.cells #[.bool b', .slice A' n' c'] 48)).alloc (.cells #[.bool false, .slice none 0 0] 48)) = W0 at b0 ⊢
  have c00 : W0.cell? ⟨w.heap.size, 0, none⟩ = some (.bool b) := by subst hW0; simp [go_sem]
  have f00 : W0.frozen? ⟨w.heap.size, 0, none⟩ = false := by subst hW0; simp [go_sem]
  have c01 : W0.cell? ⟨w.heap.size, 1, none⟩ = some (.slice A n c) := by subst hW0; simp [go_sem]
  have f01 : W0.frozen? ⟨w.heap.size, 1, none⟩ = false := by subst hW0; simp [go_sem]
  have c10 : W0.cell? ⟨w.heap.size + 1, 0, none⟩ = some (.bool b') := by subst hW0; simp [go_sem]
  have f10 : W0.frozen? ⟨w.heap.size + 1, 0, none⟩ = false := by subst hW0; simp [go_sem]
  have c11 : W0.cell? ⟨w.heap.size + 1, 1, none⟩ = some (.slice A' n' c') := by subst hW0; simp [go_sem]
  have f11 : W0.frozen? ⟨w.heap.size + 1, 1, none⟩ = false := by subst hW0; simp [go_sem]
  have c20 : W0.cell? ⟨w.heap.size + 1 + 1, 0, none⟩ = some (.bool false) := by subst hW0; simp [go_sem]
  have f20 : W0.frozen? ⟨w.heap.size + 1 + 1, 0, none⟩ = false := by subst hW0; simp [go_sem]
  have c21 : W0.cell? ⟨w.heap.size + 1 + 1, 1, none⟩ = some (.slice none 0 0) := by subst hW0; simp [go_sem]
  have f21 : W0.frozen? ⟨w.heap.size + 1 + 1, 1, none⟩ = false := by subst hW0; simp [go_sem]
  have x0 : Box W0 (w.heap.size) 48 := by subst hW0; exact ((boxAt _ _ _ (by simp)).alloc _).alloc _
  have x1 : Box W0 (w.heap.size + 1) 48 := by subst hW0; exact (boxAt _ _ _ (by simp)).alloc _
  have x2 : Box W0 (w.heap.size + 1 + 1) 48 := by subst hW0; exact boxAt _ _ _ (by simp)
  have hm0 : Made (w.heap.size + 1 + 1) (w.heap.size + 1 + 1 + 1) 2 W0 := by subst hW0; exact made1 (by simp)
  have hs0 : w.heap.size + 1 + 1 + 1 ≤ W0.heap.size := by subst hW0; simp
  clear hW0
  have wa := wa.belw b0
  have wb := wb.belw b0
  have r0 : Below W0.heap.size W0 W0 := brefl _
  have hRB : w.heap.size + 1 + 1 ≤ w.heap.size + 1 + 1 + 1 := by omega
  go_region_held3 (fun w' => Sees (w.heap.size + 1 + 1) W0 w') (first | exact Sees.of (Nat.le_trans hRB hs0) (by assumption) | exact Sees.of (Nat.le_trans hRB hs0) (below_drewN (by assumption) _) | exact (Sees.set (Sees.of (Nat.le_trans hRB hs0) (by assumption)) (by simp)) | exact (Sees.set (Sees.set (Sees.of (Nat.le_trans hRB hs0) (by assumption)) (by simp)) (by simp)))
    (first
      | (go_at_call 74; (with_reducible refine (r_neg_c _ b A n c l ?_ ?_).mono ?_); (exact wa); (omega); rintro e w1 ⟨rfl, hb1⟩; replace hb1 := bnext (below_drewN (brefl _) 1) hb1; have r1 := bnext r0 hb1; replace wa := wa.belw hb1; replace wb := wb.belw hb1)
      | (go_at_call 74; (with_reducible refine (r_neg_c _ b' A' n' c' l' ?_ ?_).mono ?_); (exact wb); (omega); rintro e w2 ⟨rfl, hb2⟩; have r2 := bnext r1 hb2; replace wa := wa.belw hb2; replace wb := wb.belw hb2)
      | (go_at_call 72; (with_reducible refine (r_mag_c _ b A n c l ?_ ?_).mono ?_); (exact wa); (omega); rintro e w3 ⟨A1, n1, c1, rfl, h1, hb3⟩; have r3 := bnext r2 hb3; replace wa := wa.belw hb3; replace wb := wb.belw hb3)
      | (go_at_call 72; (with_reducible refine (r_mag_c _ b' A' n' c' l' ?_ ?_).mono ?_); (exact wb); (omega); rintro e w4 ⟨A2, n2, c2, rfl, h2, hb4⟩; have r4 := bnext r3 hb4; replace wa := wa.belw hb4; replace wb := wb.belw hb4; replace h1 := h1.belw hb4)
      | (go_at_call 64; (with_reducible refine (r_times_c _ A1 n1 c1 (WD.m ⟨b, l⟩) ?_ ?_ A2 n2 c2 (WD.m ⟨b', l'⟩) ?_ ?_).mono ?_); (exact h1); (exact Nat.le_trans (h1.m_len (by rw [← HL.out]; exact hn)) (by decide)); (exact h2); (exact Nat.le_trans (h2.m_len (by rw [← HL'.out]; exact hn')) (by decide)); rintro e w5 ⟨A3, n3, c3, rfl, h3, hb5⟩; have r5 := bnext r4 hb5; replace wa := wa.belw hb5; replace wb := wb.belw hb5; replace h1 := h1.belw hb5; replace h2 := h2.belw hb5)
      | (go_at_call 65; (with_reducible refine (r_form_e _ (!(WD.s ⟨b, l⟩ == WD.s ⟨b', l'⟩)) A3 n3 c3 (digs (val (WD.m ⟨b, l⟩) * val (WD.m ⟨b', l'⟩))) (WD.z ⟨b, l⟩ * WD.z ⟨b', l'⟩) ?_ ?_ ?_).mono ?_); (exact h3); (rw [h3.2.1]; exact times_len h1 h2 (Nat.le_trans (Nat.add_le_add (h1.m_len (by rw [← HL.out]; exact hn)) (h2.m_len (by rw [← HL'.out]; exact hn'))) (by decide))); (rw [val_digs]; exact (z_mul _ _).symm); rintro e w6 ⟨A4, n4, c4, rfl, h4, hb6⟩; have r6 := bnext r5 hb6; replace wa := wa.belw hb6; replace wb := wb.belw hb6; replace h1 := h1.belw hb6; replace h2 := h2.belw hb6; replace h3 := h3.belw hb6; obtain ⟨⟨sc, sf⟩, sr, sz⟩ := Seen.of (by omega) hs0 hm0 r6))
  clear hRB
  go_wp2_with fail
  refine bodyPost_ret (v := .agg #[.bool _, .slice A4 n4 c4]) (by simp [results, Tryz.results96, go_sem, sr]; rfl) rfl ?_
  have x := x2.below r6
  refine retW ?_ ?_ ?_
  · rfl
  · exact h4.keep (kp2 x (by decide) _ _ _ _)
  · exact ((b0.trans (r6.mono b0.size)).setCell (by dsimp only; omega) _).setCell (by dsimp only; omega) _
end Go.Proofs.YtpnnfbodphflpaaGreatDoor

/- Walks: the reference's Sign, Sub, Cmp; its contracts as values. -/
namespace Go.Proofs.YtpnnfbodphflpaaGreatDoor
open Go Go.RowKit Bn
attribute [local go_sem ↓] Go.wp_at_zero Go.wp_at_succ
set_option maxHeartbeats 1000000 in
theorem r_sign_c (w : World) (b : Bool) (A : Option Addr) (n c : Nat) (l : List Nat) (wa : Wd w A n c l) (hn : n ≤ 1099511627000) :
    Calls Tryz.prog 94 #[.agg #[.bool b, .slice A n c]] w (RetV w (.int .i64 (WD.z ⟨b, l⟩).sign)) := by
  have hz := WD.z_eq ⟨b, l⟩
  have hcan : Canon (WD.m ⟨b, l⟩) := WD.canon_m wa.1
  by_cases hm : WD.m ⟨b, l⟩ = []
  · have HE := Lib.hid (show (WD.z ⟨b, l⟩).sign = 0 by rw [hz, hm]; cases WD.s ⟨b, l⟩ <;> rfl)
    have HM := Lib.hid hm
    clear hz hm hcan
    go_enter Tryz.func94, Tryz.ntmps94
    go_wp2_with fail
    (with_reducible refine (r_mag_c _ b A n c l ?_ ?_).mono ?_); (exact wa.keep ((Kp.refl _).alloc _)); (omega); rintro e w1 ⟨A1, n1, c1, rfl, h1, hb⟩
    have hn1 : n1 = 0 := by rw [h1.2.1, HM.out]; rfl
    subst hn1
    go_wp2_with fail
    go_ret
    exact retI HE.out.symm (((Below.refl _ _).alloc (Nat.le_refl _) _).trans (hb.mono (by simp)))
  · obtain ⟨s, hs⟩ : ∃ s, WD.s ⟨b, l⟩ = s := ⟨_, rfl⟩
    have hv : val (WD.m ⟨b, l⟩) ≠ 0 := fun e => hm ((val_eq_zero hcan).1 e)
    have HE := Lib.hid (show (WD.z ⟨b, l⟩).sign = if s then -1 else 1 by
      rw [hz, hs]
      cases s
      · simp only [sgn]; exact Int.sign_eq_one_of_pos (by simp; omega)
      · simp only [sgn]; exact Int.sign_eq_neg_one_of_neg (by simp; omega))
    have HM := Lib.hid hm
    have HS := Lib.hid hs
    clear hz hm hcan hs hv
    go_enter Tryz.func94, Tryz.ntmps94
    go_wp2_with fail
    (with_reducible refine (r_mag_c _ b A n c l ?_ ?_).mono ?_); (exact wa.keep ((Kp.refl _).alloc _)); (omega); rintro e w1 ⟨A1, n1, c1, rfl, h1, hb⟩
    have hn1 : n1 ≠ 0 := fun e => HM.out (List.eq_nil_of_length_eq_zero (by rw [← h1.2.1, e]))
    have e0 : ((n1 : Int) == 0) = false := by simp; omega
    have q : Below w.heap.size w w1 := ((Below.refl _ _).alloc (Nat.le_refl _) _).trans (hb.mono (by simp))
    have x : Blk w1 w.heap.size 48 #[.bool b, .slice A n c] := (blkAt w _ _ rfl).below hb (by simp)
    obtain ⟨cx0, cx1⟩ := x.c2
    clear hb hn1
    go_wp2_with fail
    (with_reducible refine (r_neg_c _ b A n c l ?_ ?_).mono ?_); (exact wa.belw q); (omega); rintro e w2 ⟨rfl, hb2⟩
    rw [HS.out]
    cases s
    all_goals
      go_wp2_with fail
      go_ret
      exact retI HE.out.symm (q.trans (hb2.mono q.size))
theorem cmpI_sub (x y : Int) : (x + -y).sign = cmpI x y := by
  unfold cmpI
  rcases Int.lt_trichotomy x y with h | h | h
  · rw [if_pos h]; exact Int.sign_eq_neg_one_of_neg (by omega)
  · subst h; simp [show x + -x = 0 by omega]
  · rw [if_neg (by omega), if_neg (by omega)]; exact Int.sign_eq_one_of_pos (by omega)
section
variable (w : World) (b : Bool) (A : Option Addr) (n c : Nat) (z : Int) (k : Nat) (h : IZ w b A n c z k) (b' : Bool) (A' : Option Addr) (n' c' : Nat) (z' : Int) (k' : Nat) (h' : IZ w b' A' n' c' z' k')
include h
theorem r01_neg (hk : k ≤ 1000000000) : Calls Tryz.prog 99 #[.agg #[.bool b, .slice A n c]] w (RetI w (-z) k) := by
  have hz := h.lt
  obtain ⟨l, h1, rfl, h3⟩ := h
  exact (r_neg_C w b A n c l h1 (by omega)).mono fun _ _ r => r.i (by omega)
theorem r01_sign (hk : k ≤ 1000000000) : Calls Tryz.prog 94 #[.agg #[.bool b, .slice A n c]] w (RetV w (.int .i64 z.sign)) := by
  obtain ⟨l, h1, rfl, h3⟩ := h
  exact r_sign_c w b A n c l h1 (by omega)
include h'
theorem r01_add (hk : k + k' ≤ 1000000000) : Calls Tryz.prog 98 #[.agg #[.bool b, .slice A n c], .agg #[.bool b', .slice A' n' c']] w (RetI w (z + z') (k + k' + 1)) := by
  have hz := h.mono (Nat.le_add_right k k') |>.lt
  have hz' := h'.mono (Nat.le_add_left k' k) |>.lt
  obtain ⟨l, h1, rfl, h3⟩ := h
  obtain ⟨l', h1', rfl, h3'⟩ := h'
  exact (r_add_c w b A n c l h1 (by omega) b' A' n' c' l' h1' (by omega)).mono fun _ _ r => r.i (natAbs_add_lt hz hz')
end
theorem r01_of (w : World) (i : Int) (k : Nat) (h0 : -9223372036854775808 ≤ i) (h1 : i < 9223372036854775808) (hs : i.natAbs < 4294967296 ^ k) : Calls Tryz.prog 52 #[.int .i64 i] w (RetI w i k) :=
  (r_of_c w i h0 h1).mono fun _ _ r => r.i hs
theorem r01_of1 (w : World) (i : Int) (h0 : -4294967296 < i) (h1 : i < 4294967296) : Calls Tryz.prog 52 #[.int .i64 i] w (RetI w i 1) := r01_of w i 1 (by omega) (by omega) (by omega)
set_option maxRecDepth 100000 in
set_option maxHeartbeats 2000000 in
/-- linkworkref01.Sub -/
theorem r01_sub (w : World) (b : Bool) (A : Option Addr) (n c : Nat) (z : Int) (k : Nat) (h : IZ w b A n c z k) (b' : Bool) (A' : Option Addr) (n' c' : Nat) (z' : Int) (k' : Nat) (h' : IZ w b' A' n' c' z' k') (hk : k + k' ≤ 1000000000) :
    Calls Tryz.prog 130 #[.agg #[.bool b, .slice A n c], .agg #[.bool b', .slice A' n' c']] w (RetI w (z + -z') (k + k' + 1)) := by
  go_enter Tryz.func130, Tryz.ntmps130
  go_wp2_with fail
  have p1 : Kp w (((w.alloc (.cells #[.bool b, .slice A n c] 48)).alloc (.cells #[.bool b', .slice A' n' c'] 48)).alloc (.cells #[.bool false, .slice none 0 0] 48)) := ((((Kp.refl w).alloc (.cells #[.bool b, .slice A n c] 48)).alloc (.cells #[.bool b', .slice A' n' c'] 48)).alloc (.cells #[.bool false, .slice none 0 0] 48))
  have bw1 : Below w.heap.size w (((w.alloc (.cells #[.bool b, .slice A n c] 48)).alloc (.cells #[.bool b', .slice A' n' c'] 48)).alloc (.cells #[.bool false, .slice none 0 0] 48)) := ((((brefl w).alloc (by first | omega | (simp <;> omega)) (.cells #[.bool b, .slice A n c] 48)).alloc (by first | omega | (simp <;> omega)) (.cells #[.bool b', .slice A' n' c'] 48)).alloc (by first | omega | (simp <;> omega)) (.cells #[.bool false, .slice none 0 0] 48))
  have x1_0 : Blk (((w.alloc (.cells #[.bool b, .slice A n c] 48)).alloc (.cells #[.bool b', .slice A' n' c'] 48)).alloc (.cells #[.bool false, .slice none 0 0] 48)) (w.heap.size) 48 #[.bool b, .slice A n c] := (((blkAt _ _ _ (by simp)).alloc (.cells #[.bool b', .slice A' n' c'] 48)).alloc (.cells #[.bool false, .slice none 0 0] 48))
  have x1_1 : Blk (((w.alloc (.cells #[.bool b, .slice A n c] 48)).alloc (.cells #[.bool b', .slice A' n' c'] 48)).alloc (.cells #[.bool false, .slice none 0 0] 48)) (w.heap.size + 1) 48 #[.bool b', .slice A' n' c'] := ((blkAt _ _ _ (by simp)).alloc (.cells #[.bool false, .slice none 0 0] 48))
  have x1_2 : Blk (((w.alloc (.cells #[.bool b, .slice A n c] 48)).alloc (.cells #[.bool b', .slice A' n' c'] 48)).alloc (.cells #[.bool false, .slice none 0 0] 48)) (w.heap.size + 1 + 1) 48 #[.bool false, .slice none 0 0] := (blkAt _ _ _ (by simp))
  have lw1 : w.heap.size + 3 ≤ (((w.alloc (.cells #[.bool b, .slice A n c] 48)).alloc (.cells #[.bool b', .slice A' n' c'] 48)).alloc (.cells #[.bool false, .slice none 0 0] 48)).heap.size := by simp
  generalize hE1 : (((w.alloc (.cells #[.bool b, .slice A n c] 48)).alloc (.cells #[.bool b', .slice A' n' c'] 48)).alloc (.cells #[.bool false, .slice none 0 0] 48)) = w1 at p1 bw1 lw1 x1_0 x1_1 x1_2 ⊢
  clear hE1
  replace h := h.keep p1
  replace h' := h'.keep p1
  obtain ⟨cx1_0_0, cx1_0_1⟩ := x1_0.c2
  obtain ⟨lx1_0_0, lx1_0_1, lx1_0_2, lx1_0_3⟩ := lts0 x1_0.lt
  obtain ⟨cx1_1_0, cx1_1_1⟩ := x1_1.c2
  obtain ⟨lx1_1_0, lx1_1_1, lx1_1_2, lx1_1_3⟩ := lts1 x1_1.lt
  obtain ⟨cx1_2_0, cx1_2_1⟩ := x1_2.c2
  obtain ⟨fx1_2_0, fx1_2_1⟩ := x1_2.f2
  obtain ⟨lx1_2_0, lx1_2_1, lx1_2_2, lx1_2_3⟩ := lts2 x1_2.lt
  have nfx1_0_0 : ¬ w.heap.size = w.heap.size + 1 + 1 := by omega
  have nex1_0_0 : ¬ w.heap.size = w.heap.size + 2 := by omega
  have nfx1_1_0 : ¬ w.heap.size + 1 = w.heap.size + 1 + 1 := by omega
  have nex1_1_0 : ¬ w.heap.size = w.heap.size + 1 := by omega
  go_region_held3 (fun w' => SeesX w1.heap.size (w.heap.size + 1 + 1) w1 w') (first | with_reducible exact SeesX.of (Nat.le_refl _) (by assumption) | with_reducible exact SeesX.of (Nat.le_refl _) (brefl _).drew | with_reducible exact (SeesX.set (SeesX.set (SeesX.of (Nat.le_refl _) (by assumption)))) | with_reducible exact (SeesX.set (SeesX.of (Nat.le_refl _) (by assumption))) | exact SeesX.of (Nat.le_refl _) (below_drewN (brefl _) 1) | exact SeesX.of (Nat.le_refl _) (below_drewN (by assumption) _))
    (first
      | (go_at_call 99; (with_reducible refine (r01_neg _ b' A' n' c' (z') (k') ?_ ?_).mono ?_); (exact h'); (first | omega | decide | assumption); rintro e w2 ⟨b2, A2, n2, c2, rfl, h2, hb2⟩; replace hb2 := bnext (below_drewN (brefl _) 1) hb2; have q2 : Below w1.heap.size w1 w2 := bnext (brefl w1) hb2; replace h := h.belw hb2; replace h' := h'.belw hb2)
      | (go_at_call 98; (with_reducible refine (r01_add _ b A n c (z) (k) ?_ b2 A2 n2 c2 (-(z')) ((k')) ?_ ?_).mono ?_); (exact h); (exact h2.iz); (first | omega | decide | assumption); rintro e w3 ⟨b3, A3, n3, c3, rfl, h3, hb3⟩; have q3 : Below w1.heap.size w1 w3 := bnext q2 hb3; replace h := h.belw hb3; replace h' := h'.belw hb3; replace h2 := h2.belw hb3; have x1_2 : Blk w3 (w.heap.size + 1 + 1) 48 #[.bool false, .slice none 0 0] := x1_2.below q3 x1_2.lt; obtain ⟨cx1_2_0, cx1_2_1⟩ := x1_2.c2; obtain ⟨fx1_2_0, fx1_2_1⟩ := x1_2.f2))
  have bw3 : Below w.heap.size w w3 := bw1.trans (q3.mono bw1.size)
  clear cx1_0_0 cx1_0_1 lx1_0_0 lx1_0_1 lx1_0_2 lx1_0_3 cx1_1_0 cx1_1_1 lx1_1_0 lx1_1_1 lx1_1_2 lx1_1_3 cx1_2_0 fx1_2_0 cx1_2_1 fx1_2_1 lx1_2_0 lx1_2_1 lx1_2_2 lx1_2_3
  replace x1_0 := x1_0.below q3 x1_0.lt
  replace x1_1 := x1_1.below q3 x1_1.lt
  have lw3 : w1.heap.size ≤ w3.heap.size := q3.size
  obtain ⟨cx1_2_0, cx1_2_1⟩ := x1_2.c2
  obtain ⟨fx1_2_0, fx1_2_1⟩ := x1_2.f2
  go_wp2_with fail
  refine bodyPost_ret (v := .agg #[.bool b3, .slice A3 n3 c3]) (by simp [results, Tryz.results130, go_sem, *] <;> first | rfl | exact ⟨rfl, rfl⟩) rfl ?_
  exact ⟨b3, A3, n3, c3, rfl, h3.keep (((Kp.refl w3).setB (p := ⟨w.heap.size + 1 + 1, 0, none⟩) x1_2.box (by decide) (.bool b3)).setB (p := ⟨w.heap.size + 1 + 1, 1, none⟩) (x1_2.box.set ⟨w.heap.size + 1 + 1, 0, none⟩ (.bool b3)) (by decide) (.slice A3 n3 c3)), ((bw3.setCell (p := ⟨w.heap.size + 1 + 1, 0, none⟩) (by dsimp only; omega) (.bool b3)).setCell (p := ⟨w.heap.size + 1 + 1, 1, none⟩) (by dsimp only; omega) (.slice A3 n3 c3))⟩
set_option maxRecDepth 100000 in
set_option maxHeartbeats 2000000 in
/-- linkworkref01.Cmp -/
theorem r01_cmp (w : World) (b : Bool) (A : Option Addr) (n c : Nat) (z : Int) (k : Nat) (h : IZ w b A n c z k) (b' : Bool) (A' : Option Addr) (n' c' : Nat) (z' : Int) (k' : Nat) (h' : IZ w b' A' n' c' z' k') (hk : k + k' ≤ 999999999) :
    Calls Tryz.prog 90 #[.agg #[.bool b, .slice A n c], .agg #[.bool b', .slice A' n' c']] w (RetV w (.int .i64 (cmpI z z'))) := by
  go_enter Tryz.func90, Tryz.ntmps90
  go_wp2_with fail
  (with_reducible refine (r01_sub _ b A n c (z) (k) ?_ b' A' n' c' (z') (k') ?_ ?_).mono ?_); (exact (h.belw (((Below.refl _ _).alloc (Nat.le_refl _) _).alloc (by simp) _))); (exact (h'.belw (((Below.refl _ _).alloc (Nat.le_refl _) _).alloc (by simp) _))); (first | omega | decide | assumption); rintro e w1 ⟨b1, A1, n1, c1, rfl, h1, hb1⟩
  have q1 : Below w.heap.size w w1 := (((Below.refl _ _).alloc (Nat.le_refl _) _).alloc (by simp) _).trans (hb1.mono (by simp <;> omega))
  replace h := h.belw q1
  replace h' := h'.belw q1
  have x1_0 : Blk w1 (w.heap.size) 48 #[.bool b, .slice A n c] := ((blkAt _ _ _ (by simp)).alloc _).below hb1 (by simp <;> omega)
  have x1_1 : Blk w1 (w.heap.size + 1) 48 #[.bool b', .slice A' n' c'] := (blkAt _ _ _ (by simp)).below hb1 (by simp)
  have bw1 : Below w.heap.size w w1 := (brefl w).trans (q1.mono (brefl w).size)
  have lw1 : w.heap.size + 2 ≤ w1.heap.size := by have := hb1.size; simp at this; omega
  clear hb1 q1
  go_wp2_with fail
  (with_reducible refine (r01_sign _ b1 A1 n1 c1 ((z) + -(z')) ((k) + (k') + 1) ?_ ?_).mono ?_); (exact h1.iz); (first | omega | decide | assumption); rintro e w2 ⟨rfl, hb2⟩
  have q2 : Below w1.heap.size w1 w2 := hb2
  replace h := h.belw q2
  replace h' := h'.belw q2
  replace h1 := h1.belw q2
  replace x1_0 := x1_0.below q2 x1_0.lt
  replace x1_1 := x1_1.below q2 x1_1.lt
  have bw2 : Below w.heap.size w w2 := bw1.trans (q2.mono bw1.size)
  have lw2 : w1.heap.size ≤ w2.heap.size := q2.size
  clear hb2 q2 bw1
  go_wp2_with fail
  go_ret
  exact retI (cmpI_sub _ _) bw2
end Go.Proofs.YtpnnfbodphflpaaGreatDoor

/- The reference's Mul on integers. -/
namespace Go.Proofs.YtpnnfbodphflpaaGreatDoor
open Go Go.RowKit Bn
theorem r01_mul (w : World) (b : Bool) (A : Option Addr) (n c : Nat) (z : Int) (k : Nat) (h : IZ w b A n c z k) (b' : Bool) (A' : Option Addr) (n' c' : Nat) (z' : Int) (k' : Nat) (h' : IZ w b' A' n' c' z' k') (hk : k + k' ≤ 1000000000) : Calls Tryz.prog 96 #[.agg #[.bool b, .slice A n c], .agg #[.bool b', .slice A' n' c']] w (RetI w (z * z') (k + k')) := by
  have hz := h.lt
  have hz' := h'.lt
  obtain ⟨l, h1, rfl, h3⟩ := h
  obtain ⟨l', h1', rfl, h3'⟩ := h'
  exact (r_mul_C w b A n c l h1 (by omega) b' A' n' c' l' h1' (by omega)).mono fun _ _ r => r.i (natAbs_mul_lt hz hz')
end Go.Proofs.YtpnnfbodphflpaaGreatDoor

/- Walks: what the integer laws lean on: short, Same; roots and texts as values. -/
namespace Go.Proofs.YtpnnfbodphflpaaGreatDoor
open Go Go.RowKit Bn
attribute [local go_sem ↓] Go.wp_at_zero Go.wp_at_succ
/-- Integers in a row, of some lengths. -/
def Ws (w : World) (g N : Nat) (ns : Nat → Nat) : Prop := g < w.heap.size ∧ ∀ i, i < N → ∃ b A c, w.cell? ⟨g, i * 2, none⟩ = some (.bool b) ∧ w.cell? ⟨g, i * 2 + 1, none⟩ = some (.slice A (ns i) c)
theorem Ws.belw {w w' : World} {g N : Nat} {ns : Nat → Nat} (h : Ws w g N ns) (hb : Below w.heap.size w w') : Ws w' g N ns := by
  obtain ⟨hg, h⟩ := h
  have hc := (bcell hb).1
  refine ⟨Nat.lt_of_lt_of_le hg hb.size, fun i hi => ?_⟩
  obtain ⟨b, A, c, h1, h2⟩ := h i hi
  exact ⟨b, A, c, (hc _ _ hg).trans h1, (hc _ _ hg).trans h2⟩
def RetSh (w : World) (N : Nat) (ns : Nat → Nat) (e : Ending) (w' : World) : Prop := ∃ r : Bool, e = .returned (.bool r) ∧ (r = true → ∀ i, i < N → ns i ≤ 30) ∧ Below w.heap.size w w'
set_option maxRecDepth 100000 in
set_option maxHeartbeats 2000000 in
theorem l_short (w : World) (g N : Nat) (ns : Nat → Nat) (h : Ws w g N ns) (hN : N ≤ 1000) :
    Calls Tryz.prog 21 #[.slice (some ⟨g, 0, none⟩) N N] w (RetSh w N ns) := by
  go_enter Tryz.func21, Tryz.ntmps21
  go_wp2_with fail
  go_loopw [7] (fun iv wr => ∃ i : Nat, i ≤ N ∧ iv = .int .i64 (i : Nat) ∧ (∀ j, j < i → ns j ≤ 30) ∧ Below w.heap.size w wr) (fun iv _ => N - (intOf iv).toNat)
  case atStart => exact ⟨0, Nat.zero_le _, rfl, fun j hj => absurd hj (by omega), brefl w⟩
  case round =>
    obtain ⟨i, hi, rfl, hall, hb⟩ := hrel
    have HA := Lib.hid hall
    have HB := Lib.hid hb
    by_cases hlt : i < N
    · have hw := h.belw hb
      obtain ⟨b, A, c, c0, c1⟩ := hw.2 i hlt
      have hgl := hw.1
      have H := Lib.hid h
      obtain ⟨p, hp⟩ : ∃ p, ns i = p := ⟨_, rfl⟩
      rw [hp] at c1
      have HP := Lib.hid hp
      clear h hw hall hb hp
      by_cases h1 : p ≤ 30
      · go_wp2_with fail
        go_roundw
        case rel => exact ⟨i + 1, by omega, by go_num, fun j hj => by
          by_cases hji : j = i
          · subst hji; rw [HP.out]; exact h1
          · exact HA.out j (by omega), HB.out.alloc HB.out.size _⟩
        case measure => simp [intOf]; omega
      · go_wp2_with fail
        go_ret
        exact ⟨false, rfl, (fun h => nomatch h), HB.out.alloc HB.out.size _⟩
    · have hiN : i = N := by omega
      subst hiN
      clear h hall hb
      go_wp2_with fail
      go_ret
      exact ⟨true, rfl, fun _ => HA.out, HB.out⟩
set_option maxRecDepth 100000 in
set_option maxHeartbeats 2000000 in
/-- linkworkref01.Same, of equal integers -/
theorem s_same (w : World) (b : Bool) (A : Option Addr) (n c : Nat) (z : Int) (k : Nat) (h : IV w b A n c z k) (b' : Bool) (A' : Option Addr) (n' c' : Nat) (z' : Int) (k' : Nat) (h' : IV w b' A' n' c' z' k') (hz : z = z') (hk : k ≤ 1000000000) :
    Calls Tryz.prog 27 #[.agg #[.bool b, .slice A n c], .agg #[.bool b', .slice A' n' c']] w (RetV w (.bool true)) := by
  subst hz
  obtain ⟨rfl, wa, hn⟩ := h
  obtain ⟨rfl, wb, _⟩ := h'
  have hnn : n' = n := by rw [wa.2.1, wb.2.1]
  subst hnn
  obtain ⟨bb, hbb⟩ : ∃ bb, (wh z).neg = bb := ⟨_, rfl⟩
  obtain ⟨l, hl⟩ : ∃ l, (wh z).mag = l := ⟨_, rfl⟩
  rw [hl] at wa wb
  rw [hbb]
  have HA := Lib.hid wa
  have HB := Lib.hid wb
  clear wa wb hbb hl
  have x0 : Blk ((w.alloc (.cells #[.bool bb, .slice A n' c] 48)).alloc (.cells #[.bool bb, .slice A' n' c'] 48)) w.heap.size 48 #[.bool bb, .slice A n' c] := (blkAt w _ _ rfl).alloc _
  have x1 : Blk ((w.alloc (.cells #[.bool bb, .slice A n' c] 48)).alloc (.cells #[.bool bb, .slice A' n' c'] 48)) (w.heap.size + 1) 48 #[.bool bb, .slice A' n' c'] := (blkAt _ _ _ (by simp))
  have b0 : Below w.heap.size w ((w.alloc (.cells #[.bool bb, .slice A n' c] 48)).alloc (.cells #[.bool bb, .slice A' n' c'] 48)) := ((Below.refl _ _).alloc (Nat.le_refl _) _).alloc (by simp) _
  go_enter Tryz.func27, Tryz.ntmps27
  go_wp2_with fail
  generalize ((w.alloc (.cells #[.bool bb, .slice A n' c] 48)).alloc (.cells #[.bool bb, .slice A' n' c'] 48)) = W0 at x0 x1 b0 ⊢
  go_loopw [23] (fun iv wr => ∃ (i q : Nat), i ≤ n' ∧ iv = .int .i64 (i : Nat) ∧ wr = W0.drewN q) (fun iv _ => n' - (intOf iv).toNat)
  case atStart => exact ⟨0, 0, Nat.zero_le _, rfl, rfl⟩
  case round =>
    obtain ⟨i, q, hi, rfl, rfl⟩ := hrel
    by_cases hlt : i < n'
    · obtain ⟨g, o, rfl, hc1⟩ := (HA.out.belw b0).at_ (by omega)
      obtain ⟨g', o', rfl, hc2⟩ := (HB.out.belw b0).at_ (by omega)
      have h1 := hc1 i hlt
      have h2 := hc2 i hlt
      obtain ⟨cx0, cx1⟩ := x0.c2
      obtain ⟨cy0, cy1⟩ := x1.c2
      have hi0 : (0 : Int) ≤ (i : Int) := by omega
      have hi1 : (i : Int) < (n' : Int) := by omega
      generalize wd l i = x at h1 h2
      clear hc1 hc2
      go_wp2_with fail
      go_quiet (fail)
      go_wp2
      go_roundw
      case rel => exact ⟨i + 1, _, by omega, by go_num, rfl⟩
      case measure => simp [intOf]; omega
    · go_wp2
      go_ret
      exact retB rfl (by repeat (first | exact b0 | refine below_drewN ?_ _))
/-- Roots and texts as values. -/
theorem i_root (w : World) (b : Bool) (A : Option Addr) (n c : Nat) (z : Int) (k : Nat) (h : IZ w b A n c z k) (hk : k ≤ 1000000000) (v : Value) (hv : rootE z = v) (y : Int) (hy : rootZ z = y) :
    Calls Tryz.prog 53 #[.agg #[.bool b, .slice A n c]] w (RetIe w v y k) := by
  subst hv hy
  obtain ⟨l, h1, rfl, h3⟩ := h
  exact root_C w b A n c l k h1 h3 hk
theorem i_bits (w : World) (b : Bool) (A : Option Addr) (n c : Nat) (z : Int) (k : Nat) (h : IZ w b A n c z k) (hk : k ≤ 1000000000) :
    Calls Tryz.prog 102 #[.agg #[.bool b, .slice A n c]] w (RetV w (.int .i64 (blen z.natAbs : Nat))) := by
  obtain ⟨l, h1, rfl, h3⟩ := h
  exact bits_C w b A n c l h1 (by omega)
theorem i_text (w : World) (b : Bool) (A : Option Addr) (n c : Nat) (z : Int) (k : Nat) (h : IZ w b A n c z k) (T : ByteArray) (hk : k ≤ 1000000000) (ht : Tab w) (hT : ⟨(Lib.itoa z).toArray⟩ = T) :
    Calls Tryz.prog 25 #[.agg #[.bool b, .slice A n c]] w (RetV w (.string T)) := by
  subst hT
  obtain ⟨l, h1, rfl, h3⟩ := h
  exact text_C w b A n c l h1 (by omega) ht
/-- A text by its digits. -/
theorem itoa_nat (u : Nat) (l : List UInt8) (h : Lib.decDigits u = l) : (⟨(Lib.itoa (u : Int)).toArray⟩ : ByteArray) = ⟨l.toArray⟩ := by rw [Lib.itoa_nonneg, h]
theorem aw1 : (⟨(Lib.itoa ((-7) / 2)).toArray⟩ : ByteArray) = ⟨#[45, 52]⟩ := by
  rw [show ((-7 : Int) / 2) = -((4 : Nat) : Int) by decide, Lib.itoa_neg 4 (by omega), Lib.decDigits_one (by omega)]; rfl
theorem aw2 : (⟨(Lib.itoa ((-7) % 2)).toArray⟩ : ByteArray) = ⟨#[49]⟩ := by
  rw [show ((-7 : Int) % 2) = ((1 : Nat) : Int) by decide, Lib.itoa_nonneg, Lib.decDigits_one (by omega)]; rfl
theorem aw3 : (⟨(Lib.itoa 9).toArray⟩ : ByteArray) = ⟨#[57]⟩ := itoa_nat 9 _ (Lib.decDigits_one (by omega))
theorem aw4 : (⟨(Lib.itoa (Nat.gcd (-12 : Int).natAbs (18 : Int).natAbs : Nat)).toArray⟩ : ByteArray) = ⟨#[54]⟩ := itoa_nat _ _ (show Lib.decDigits 6 = [54] from Lib.decDigits_one (by omega))
theorem aw5 : (⟨(Lib.itoa 4294967296).toArray⟩ : ByteArray) = ⟨#[52, 50, 57, 52, 57, 54, 55, 50, 57, 54]⟩ := by
  refine itoa_nat 4294967296 _ ?_
  simp [Lib.decDigits]
theorem aw6 : rootE 99 = .nilIface := rfl
theorem aw7 : rootZ 99 = 9 := by
  unfold rootZ
  rw [if_neg (by decide), show (99 : Int).natAbs = 99 from rfl, isq_of (n := 99) (r := 9) (by decide) (by decide)]
  rfl
end Go.Proofs.YtpnnfbodphflpaaGreatDoor

/- Walks: awake. -/
namespace Go.Proofs.YtpnnfbodphflpaaGreatDoor
open Go Go.RowKit Bn
attribute [local go_sem ↓] Go.wp_at_zero Go.wp_at_succ
set_option maxRecDepth 100000 in
set_option maxHeartbeats 4000000 in
/-- linkworklaw01.awake -/
theorem l_awake (w : World) (htab : Tab w) :
    Calls Tryz.prog 22 #[] w (RetV w (.bool true)) := by
  go_enter Tryz.func22, Tryz.ntmps22
  go_wp2_with fail
  (with_reducible refine (r01_of1 _ ((-7)) ?_ ?_).mono ?_); (first | omega | decide | assumption); (first | omega | decide | assumption); rintro e w1 ⟨b1, A1, n1, c1, rfl, h1, hb1⟩
  have q1 : Below w.heap.size w w1 := hb1
  have bw1 : Below w.heap.size w w1 := (brefl w).trans (q1.mono (brefl w).size)
  have lw1 : w.heap.size ≤ w1.heap.size := q1.size
  clear hb1 q1
  go_wp2_with fail
  (with_reducible refine (r01_of1 _ (2) ?_ ?_).mono ?_); (first | omega | decide | assumption); (first | omega | decide | assumption); rintro e w2 ⟨b2, A2, n2, c2, rfl, h2, hb2⟩
  have q2 : Below w1.heap.size w1 w2 := hb2
  replace h1 := h1.belw q2
  have bw2 : Below w.heap.size w w2 := bw1.trans (q2.mono bw1.size)
  have lw2 : w1.heap.size ≤ w2.heap.size := q2.size
  clear hb2 q2 bw1
  go_wp2_with fail
  (with_reducible refine (i_div _ b1 A1 n1 c1 ((-7)) (1) ?_ b2 A2 n2 c2 (2) (1) ?_ ?_ ?_).mono ?_); (exact h1.iz); (exact h2.iz); (first | omega | decide | assumption); (first | omega | decide | assumption); rintro e w3 ⟨b3, A3, n3, c3, b'3, A'3, n'3, c'3, rfl, h3, h'3, hb3⟩
  have q3 : Below w2.heap.size w2 w3 := hb3
  replace h1 := h1.belw q3
  replace h2 := h2.belw q3
  have bw3 : Below w.heap.size w w3 := bw2.trans (q3.mono bw2.size)
  have lw3 : w2.heap.size ≤ w3.heap.size := q3.size
  clear hb3 q3 bw2
  go_wp2_with fail
  (with_reducible refine (r01_of1 _ (99) ?_ ?_).mono ?_); (first | omega | decide | assumption); (first | omega | decide | assumption); rintro e w4 ⟨b4, A4, n4, c4, rfl, h4, hb4⟩
  have q4 : Below w3.heap.size w3 w4 := (((Below.refl _ _).alloc (Nat.le_refl _) _).alloc (by simp) _).trans (hb4.mono (by simp <;> omega))
  replace h1 := h1.belw q4
  replace h2 := h2.belw q4
  replace h3 := h3.belw q4
  replace h'3 := h'3.belw q4
  have x4_0 : Blk w4 (w3.heap.size) 48 #[.bool b3, .slice A3 n3 c3] := ((blkAt _ _ _ (by simp)).alloc _).below hb4 (by simp <;> omega)
  have x4_1 : Blk w4 (w3.heap.size + 1) 48 #[.bool b'3, .slice A'3 n'3 c'3] := (blkAt _ _ _ (by simp)).below hb4 (by simp)
  have bw4 : Below w.heap.size w w4 := bw3.trans (q4.mono bw3.size)
  have lw4 : w3.heap.size + 2 ≤ w4.heap.size := by have := hb4.size; simp at this; omega
  clear hb4 q4 bw3
  go_wp2_with fail
  (with_reducible refine (i_root _ b4 A4 n4 c4 (99) (1) ?_ (by omega) _ aw6 _ aw7).mono ?_); (exact h4.iz); rintro e w5 ⟨b5, A5, n5, c5, rfl, h5, hb5⟩
  have q5 : Below w4.heap.size w4 w5 := hb5
  replace h1 := h1.belw q5
  replace h2 := h2.belw q5
  replace h3 := h3.belw q5
  replace h'3 := h'3.belw q5
  replace h4 := h4.belw q5
  replace x4_0 := x4_0.below q5 x4_0.lt
  replace x4_1 := x4_1.below q5 x4_1.lt
  have bw5 : Below w.heap.size w w5 := bw4.trans (q5.mono bw4.size)
  have lw5 : w4.heap.size ≤ w5.heap.size := q5.size
  clear hb5 q5 bw4
  obtain ⟨cx4_0_0, cx4_0_1⟩ := x4_0.c2
  obtain ⟨lx4_0_0, lx4_0_1, lx4_0_2, lx4_0_3⟩ := lts0 x4_0.lt
  go_wp2_with fail
  (with_reducible refine (i_text _ b3 A3 n3 c3 (((-7)) / (2)) ((1) + (1)) ?_ ⟨#[45, 52]⟩ ?_ ?_ ?_).mono ?_); (exact (h3.belw ((Below.refl _ _).alloc (Nat.le_refl _) _)).iz); (first | omega | decide | assumption); (exact htab.belw (bw5.alloc (by first | omega | (simp <;> omega)) (.cells #[.bool b5, .slice A5 n5 c5] 48))); (exact aw1); rintro e w6 ⟨rfl, hb6⟩
  clear cx4_0_0 cx4_0_1 lx4_0_0 lx4_0_1 lx4_0_2 lx4_0_3
  have q6 : Below w5.heap.size w5 w6 := ((Below.refl _ _).alloc (Nat.le_refl _) _).trans (hb6.mono (by simp))
  replace h1 := h1.belw q6
  replace h2 := h2.belw q6
  replace h3 := h3.belw q6
  replace h'3 := h'3.belw q6
  replace h4 := h4.belw q6
  replace h5 := h5.belw q6
  replace x4_0 := x4_0.below q6 x4_0.lt
  replace x4_1 := x4_1.below q6 x4_1.lt
  have x6_0 : Blk w6 (w5.heap.size) 48 #[.bool b5, .slice A5 n5 c5] := (blkAt _ _ _ (by simp)).below hb6 (by simp)
  have bw6 : Below w.heap.size w w6 := bw5.trans (q6.mono bw5.size)
  have lw6 : w5.heap.size + 1 ≤ w6.heap.size := by have := hb6.size; simp at this; omega
  clear hb6 q6 bw5
  obtain ⟨cx4_1_0, cx4_1_1⟩ := x4_1.c2
  obtain ⟨lx4_1_0, lx4_1_1, lx4_1_2, lx4_1_3⟩ := lts1 x4_1.lt
  go_wp2_with fail
  (with_reducible refine (i_text _ b'3 A'3 n'3 c'3 (((-7)) % (2)) ((1) + (1)) ?_ ⟨#[49]⟩ ?_ ?_ ?_).mono ?_); (exact h'3.iz); (first | omega | decide | assumption); (exact htab.belw bw6); (exact aw2); rintro e w7 ⟨rfl, hb7⟩
  clear cx4_1_0 cx4_1_1 lx4_1_0 lx4_1_1 lx4_1_2 lx4_1_3
  have q7 : Below w6.heap.size w6 w7 := hb7
  replace h1 := h1.belw q7
  replace h2 := h2.belw q7
  replace h3 := h3.belw q7
  replace h'3 := h'3.belw q7
  replace h4 := h4.belw q7
  replace h5 := h5.belw q7
  replace x4_0 := x4_0.below q7 x4_0.lt
  replace x4_1 := x4_1.below q7 x4_1.lt
  replace x6_0 := x6_0.below q7 x6_0.lt
  have bw7 : Below w.heap.size w w7 := bw6.trans (q7.mono bw6.size)
  have lw7 : w6.heap.size ≤ w7.heap.size := q7.size
  clear hb7 q7 bw6
  obtain ⟨cx6_0_0, cx6_0_1⟩ := x6_0.c2
  obtain ⟨lx6_0_0, lx6_0_1, lx6_0_2, lx6_0_3⟩ := lts0 x6_0.lt
  go_wp2_with fail
  (with_reducible refine (i_text _ b5 A5 n5 c5 (9) ((1)) ?_ ⟨#[57]⟩ ?_ ?_ ?_).mono ?_); (exact h5.iz); (first | omega | decide | assumption); (exact htab.belw bw7); (exact aw3); rintro e w8 ⟨rfl, hb8⟩
  clear cx6_0_0 cx6_0_1 lx6_0_0 lx6_0_1 lx6_0_2 lx6_0_3
  have q8 : Below w7.heap.size w7 w8 := hb8
  replace h1 := h1.belw q8
  replace h2 := h2.belw q8
  replace h3 := h3.belw q8
  replace h'3 := h'3.belw q8
  replace h4 := h4.belw q8
  replace h5 := h5.belw q8
  replace x4_0 := x4_0.below q8 x4_0.lt
  replace x4_1 := x4_1.below q8 x4_1.lt
  replace x6_0 := x6_0.below q8 x6_0.lt
  have bw8 : Below w.heap.size w w8 := bw7.trans (q8.mono bw7.size)
  have lw8 : w7.heap.size ≤ w8.heap.size := q8.size
  clear hb8 q8 bw7
  go_wp2_with fail
  (with_reducible refine (r01_of1 _ ((-12)) ?_ ?_).mono ?_); (first | omega | decide | assumption); (first | omega | decide | assumption); rintro e w9 ⟨b9, A9, n9, c9, rfl, h9, hb9⟩
  have q9 : Below w8.heap.size w8 w9 := hb9
  replace h1 := h1.belw q9
  replace h2 := h2.belw q9
  replace h3 := h3.belw q9
  replace h'3 := h'3.belw q9
  replace h4 := h4.belw q9
  replace h5 := h5.belw q9
  replace x4_0 := x4_0.below q9 x4_0.lt
  replace x4_1 := x4_1.below q9 x4_1.lt
  replace x6_0 := x6_0.below q9 x6_0.lt
  have bw9 : Below w.heap.size w w9 := bw8.trans (q9.mono bw8.size)
  have lw9 : w8.heap.size ≤ w9.heap.size := q9.size
  clear hb9 q9 bw8
  go_wp2_with fail
  (with_reducible refine (r01_of1 _ (18) ?_ ?_).mono ?_); (first | omega | decide | assumption); (first | omega | decide | assumption); rintro e w10 ⟨b10, A10, n10, c10, rfl, h10, hb10⟩
  have q10 : Below w9.heap.size w9 w10 := hb10
  replace h1 := h1.belw q10
  replace h2 := h2.belw q10
  replace h3 := h3.belw q10
  replace h'3 := h'3.belw q10
  replace h4 := h4.belw q10
  replace h5 := h5.belw q10
  replace h9 := h9.belw q10
  replace x4_0 := x4_0.below q10 x4_0.lt
  replace x4_1 := x4_1.below q10 x4_1.lt
  replace x6_0 := x6_0.below q10 x6_0.lt
  have bw10 : Below w.heap.size w w10 := bw9.trans (q10.mono bw9.size)
  have lw10 : w9.heap.size ≤ w10.heap.size := q10.size
  clear hb10 q10 bw9
  go_wp2_with fail
  (with_reducible refine (i_gcd _ b9 A9 n9 c9 ((-12)) (1) ?_ b10 A10 n10 c10 (18) (1) ?_ ?_).mono ?_); (exact h9.iz); (exact h10.iz); (first | omega | decide | assumption); rintro e w11 ⟨b11, A11, n11, c11, rfl, h11, hb11⟩
  have q11 : Below w10.heap.size w10 w11 := hb11
  replace h1 := h1.belw q11
  replace h2 := h2.belw q11
  replace h3 := h3.belw q11
  replace h'3 := h'3.belw q11
  replace h4 := h4.belw q11
  replace h5 := h5.belw q11
  replace h9 := h9.belw q11
  replace h10 := h10.belw q11
  replace x4_0 := x4_0.below q11 x4_0.lt
  replace x4_1 := x4_1.below q11 x4_1.lt
  replace x6_0 := x6_0.below q11 x6_0.lt
  have bw11 : Below w.heap.size w w11 := bw10.trans (q11.mono bw10.size)
  have lw11 : w10.heap.size ≤ w11.heap.size := q11.size
  clear hb11 q11 bw10
  go_wp2_with fail
  (with_reducible refine (i_text _ b11 A11 n11 c11 ((Nat.gcd (((-12)) : Int).natAbs ((18) : Int).natAbs : Nat)) ((1) + (1)) ?_ ⟨#[54]⟩ ?_ ?_ ?_).mono ?_); (exact h11.iz); (first | omega | decide | assumption); (exact htab.belw bw11); (exact aw4); rintro e w12 ⟨rfl, hb12⟩
  have q12 : Below w11.heap.size w11 w12 := hb12
  replace h1 := h1.belw q12
  replace h2 := h2.belw q12
  replace h3 := h3.belw q12
  replace h'3 := h'3.belw q12
  replace h4 := h4.belw q12
  replace h5 := h5.belw q12
  replace h9 := h9.belw q12
  replace h10 := h10.belw q12
  replace h11 := h11.belw q12
  replace x4_0 := x4_0.below q12 x4_0.lt
  replace x4_1 := x4_1.below q12 x4_1.lt
  replace x6_0 := x6_0.below q12 x6_0.lt
  have bw12 : Below w.heap.size w w12 := bw11.trans (q12.mono bw11.size)
  have lw12 : w11.heap.size ≤ w12.heap.size := q12.size
  clear hb12 q12 bw11
  go_wp2_with fail
  have p13 : Kp w12 (w12.alloc (.cells #[.int .u32 0, .int .u32 1] 84)) := ((Kp.refl w12).alloc (.cells #[.int .u32 0, .int .u32 1] 84))
  have bw13 : Below w.heap.size w (w12.alloc (.cells #[.int .u32 0, .int .u32 1] 84)) := (bw12.alloc (by first | omega | (simp <;> omega)) (.cells #[.int .u32 0, .int .u32 1] 84))
  have x13_0 : Blk (w12.alloc (.cells #[.int .u32 0, .int .u32 1] 84)) (w12.heap.size) 84 #[.int .u32 0, .int .u32 1] := (blkAt _ _ _ (by simp))
  replace x4_0 : Blk (w12.alloc (.cells #[.int .u32 0, .int .u32 1] 84)) (w3.heap.size) 48 #[.bool b3, .slice A3 n3 c3] := (x4_0.alloc (.cells #[.int .u32 0, .int .u32 1] 84))
  replace x4_1 : Blk (w12.alloc (.cells #[.int .u32 0, .int .u32 1] 84)) (w3.heap.size + 1) 48 #[.bool b'3, .slice A'3 n'3 c'3] := (x4_1.alloc (.cells #[.int .u32 0, .int .u32 1] 84))
  replace x6_0 : Blk (w12.alloc (.cells #[.int .u32 0, .int .u32 1] 84)) (w5.heap.size) 48 #[.bool b5, .slice A5 n5 c5] := (x6_0.alloc (.cells #[.int .u32 0, .int .u32 1] 84))
  have lw13 : w12.heap.size + 1 ≤ (w12.alloc (.cells #[.int .u32 0, .int .u32 1] 84)).heap.size := by simp
  generalize hE13 : (w12.alloc (.cells #[.int .u32 0, .int .u32 1] 84)) = w13 at p13 bw13 lw13 x13_0 x4_0 x4_1 x6_0 ⊢
  clear hE13
  replace h1 := h1.keep p13
  replace h2 := h2.keep p13
  replace h3 := h3.keep p13
  replace h'3 := h'3.keep p13
  replace h4 := h4.keep p13
  replace h5 := h5.keep p13
  replace h9 := h9.keep p13
  replace h10 := h10.keep p13
  replace h11 := h11.keep p13
  clear bw12
  have hW : IZ w13 false (some ⟨w12.heap.size, 0, none⟩) 2 2 4294967296 2 := ⟨[0, 1], (show Blk w13 (w12.heap.size) 84 (cellsOf [0, 1]) from x13_0).wdN (by intro x hx; simp at hx; omega) rfl, by decide, Nat.le_refl _⟩
  (with_reducible refine (i_text _ false (some ⟨w12.heap.size, 0, none⟩) 2 2 (4294967296) (2) ?_ ⟨#[52, 50, 57, 52, 57, 54, 55, 50, 57, 54]⟩ ?_ ?_ ?_).mono ?_); (exact hW); (first | omega | decide | assumption); (exact htab.belw bw13); (exact aw5); rintro e w14 ⟨rfl, hb14⟩
  have q14 : Below w13.heap.size w13 w14 := hb14
  replace h1 := h1.belw q14
  replace h2 := h2.belw q14
  replace h3 := h3.belw q14
  replace h'3 := h'3.belw q14
  replace h4 := h4.belw q14
  replace h5 := h5.belw q14
  replace h9 := h9.belw q14
  replace h10 := h10.belw q14
  replace h11 := h11.belw q14
  replace hW := hW.belw q14
  replace x4_0 := x4_0.below q14 x4_0.lt
  replace x4_1 := x4_1.below q14 x4_1.lt
  replace x6_0 := x6_0.below q14 x6_0.lt
  replace x13_0 := x13_0.below q14 x13_0.lt
  have bw14 : Below w.heap.size w w14 := bw13.trans (q14.mono bw13.size)
  have lw14 : w13.heap.size ≤ w14.heap.size := q14.size
  clear hb14 q14 bw13
  go_wp2_with fail
  go_ret
  exact retB rfl bw14
end Go.Proofs.YtpnnfbodphflpaaGreatDoor

/- Walks: the opening of the integer laws. -/
namespace Go.Proofs.YtpnnfbodphflpaaGreatDoor
open Go Go.RowKit Bn
attribute [local go_sem ↓] Go.wp_at_zero Go.wp_at_succ
theorem i_valid (w : World) (b : Bool) (A : Option Addr) (n c : Nat) (z : Int) (k : Nat) (h : IV w b A n c z k) (hk : k ≤ 1000000000) :
    Calls Tryz.prog 31 #[.agg #[.bool b, .slice A n c]] w (RetV w (.bool true)) := by
  obtain ⟨rfl, h1, h2⟩ := h
  have := valid_c w (wh z).neg A n c (wh z).mag h1 (by omega)
  rw [show WD.ok ⟨(wh z).neg, (wh z).mag⟩ = true from wh_ok z] at this
  exact this
theorem i_cmp_v (w : World) (b : Bool) (A : Option Addr) (n c : Nat) (z : Int) (k : Nat) (h : IZ w b A n c z k) (b' : Bool) (A' : Option Addr) (n' c' : Nat) (z' : Int) (k' : Nat) (h' : IZ w b' A' n' c' z' k') (v : Int) (hv : cmpI z z' = v) (hk : k + k' ≤ 1000000000) : Calls Tryz.prog 30 #[.agg #[.bool b, .slice A n c], .agg #[.bool b', .slice A' n' c']] w (RetV w (.int .i64 v)) := by
  subst hv; exact i_cmp w b A n c z k h b' A' n' c' z' k' h' hk
theorem i_sign_v (w : World) (b : Bool) (A : Option Addr) (n c : Nat) (z : Int) (k : Nat) (h : IZ w b A n c z k) (v : Int) (hv : z.sign = v) (hk : k ≤ 1000000000) : Calls Tryz.prog 76 #[.agg #[.bool b, .slice A n c]] w (RetV w (.int .i64 v)) := by
  subst hv; exact i_sign w b A n c z k h hk
theorem IZ.short {w : World} {b : Bool} {A : Option Addr} {n c k : Nat} {z : Int} (h : IZ w b A n c z k) (hs : n ≤ 30) : IZ w b A n c z 30 := by
  obtain ⟨l, h1, h2, _⟩ := h
  exact ⟨l, h1, h2, hs⟩
theorem ws1 {w : World} {g : Nat} {T : TypeId} {b : Bool} {A : Option Addr} {n c : Nat} (hb : Blk w g T #[.bool b, .slice A n c]) : Ws w g 1 (fun _ : Nat => n) := by
  refine ⟨hb.lt, fun i hi => ?_⟩
  match i, hi with
  | 0, _ => exact ⟨_, _, _, hb.cell 0, hb.cell 1⟩
theorem ws2 {w : World} {g : Nat} {T : TypeId} {b : Bool} {A : Option Addr} {n c : Nat} {b1 : Bool} {A1 : Option Addr} {n1 c1 : Nat}
    (hb : Blk w g T #[.bool b, .slice A n c, .bool b1, .slice A1 n1 c1]) : Ws w g 2 (fun i : Nat => if i = 0 then n else n1) := by
  refine ⟨hb.lt, fun i hi => ?_⟩
  match i, hi with
  | 0, _ => exact ⟨_, _, _, hb.cell 0, hb.cell 1⟩
  | 1, _ => exact ⟨_, _, _, hb.cell 2, hb.cell 3⟩
theorem ws3 {w : World} {g : Nat} {T : TypeId} {b : Bool} {A : Option Addr} {n c : Nat} {b1 : Bool} {A1 : Option Addr} {n1 c1 : Nat} {b2 : Bool} {A2 : Option Addr} {n2 c2 : Nat}
    (hb : Blk w g T #[.bool b, .slice A n c, .bool b1, .slice A1 n1 c1, .bool b2, .slice A2 n2 c2]) : Ws w g 3 (fun i : Nat => if i = 0 then n else if i = 1 then n1 else n2) := by
  refine ⟨hb.lt, fun i hi => ?_⟩
  match i, hi with
  | 0, _ => exact ⟨_, _, _, hb.cell 0, hb.cell 1⟩
  | 1, _ => exact ⟨_, _, _, hb.cell 2, hb.cell 3⟩
  | 2, _ => exact ⟨_, _, _, hb.cell 4, hb.cell 5⟩
theorem cmpI_low (x y : Int) : -1 ≤ cmpI x y ∧ cmpI x y ≤ 1 := by
  unfold cmpI; (repeat' split) <;> omega
theorem cmpI_swap (x y : Int) : cmpI y x = -cmpI x y := by
  unfold cmpI; (repeat' split) <;> omega
theorem cmpI_add (x y c : Int) : cmpI (x + c) (y + c) = cmpI x y := by
  unfold cmpI; (repeat' split) <;> omega
theorem sign_low (x : Int) : -1 ≤ x.sign ∧ x.sign ≤ 1 := by
  rcases Int.lt_trichotomy x 0 with h | h | h
  · rw [Int.sign_eq_neg_one_of_neg h]; decide
  · subst h; decide
  · rw [Int.sign_eq_one_of_pos h]; decide
theorem cmpI_mul (x y c : Int) : cmpI (x * c) (y * c) = cmpI x y * c.sign := by
  rcases Int.lt_trichotomy c 0 with h | h | h
  · rw [Int.sign_eq_neg_one_of_neg h]
    rcases Int.lt_trichotomy x y with e | e | e
    · have := Int.mul_lt_mul_of_neg_right e h
      unfold cmpI; rw [if_neg (by omega), if_neg (by omega), if_pos e]; rfl
    · subst e; unfold cmpI; simp
    · have := Int.mul_lt_mul_of_neg_right e h
      unfold cmpI; rw [if_pos this, if_neg (by omega), if_neg (by omega)]; rfl
  · subst h; simp [cmpI]
  · rw [Int.sign_eq_one_of_pos h, Int.mul_one]
    rcases Int.lt_trichotomy x y with e | e | e
    · have := Int.mul_lt_mul_of_pos_right e h
      unfold cmpI; rw [if_pos this, if_pos e]
    · subst e; unfold cmpI; simp
    · have := Int.mul_lt_mul_of_pos_right e h
      unfold cmpI; rw [if_neg (by omega), if_neg (by omega), if_neg (by omega), if_neg (by omega)]
theorem cmpI_trans {x y c : Int} (h1 : ¬ 0 < cmpI x y) (h2 : ¬ 0 < cmpI y c) : cmpI x c ≤ 0 := by
  revert h1 h2; unfold cmpI; (repeat' split) <;> omega
end Go.Proofs.YtpnnfbodphflpaaGreatDoor

/- Walks: the reference's division. -/
namespace Go.Proofs.YtpnnfbodphflpaaGreatDoor
open Go Go.RowKit Bn
attribute [local go_sem ↓] Go.wp_at_zero Go.wp_at_succ

theorem val_rep (m : Nat) : val (List.replicate m 0) = 0 := by
  induction m with
  | zero => rfl
  | succ m ih => rw [List.replicate_succ, val, ih]
theorem wds_rep (m : Nat) : Wds (List.replicate m 0) := by intro x hx; rw [List.eq_of_mem_replicate hx]; omega
theorem words_cells (l : List Nat) : (cellsOf l).toList = words l := by simp [cellsOf, words]
theorem OwS.made (w : World) {B : Nat} (L : List Nat) (n : Nat) (hB : B ≤ w.heap.size) (hn : n ≤ 4398046511104) (hL : L.length = n) (hW : Wds L) : OwS (w.alloc (.cells (cellsOf L) 84)) B w.heap.size n n L := by
  refine ⟨?_, hW⟩
  rw [← words_cells]
  exact World.ownsRow_lit w (cellsOf L) n hB (by unfold maxLen; omega) (by simp [cellsOf, hL])
theorem OwS.far {w : World} {B g n cap : Nat} {l : List Nat} (h : OwS w B g n cap l) {p : Addr} (hp : g ≠ p.block) (u : Value) : OwS (w.setCell p u) B g n cap l := by
  refine ⟨⟨h.1.1, ?_⟩, h.2⟩
  rcases h.1.2 with ⟨e, _⟩ | ⟨g', c', cur, e, hB, hgg, r⟩
  · cases e
  · have e' := e
    injection e with e1 _ e2; injection e1 with e1; injection e1 with e1; subst e1
    exact .inr ⟨g, c', cur, e', hB, (Below.heap_setCell w p u g hp).trans hgg, r⟩
theorem or_word {u p s : Nat} (hu : u + p < 4294967296) (ho : u ||| p = u + p) (hp : 2 ^ s = p) : bits .or .u32 (u : Int) ((2 : Int) ^ s % 4294967296) = ((u + p : Nat) : Int) := by
  have e : (2 : Int) ^ s % 4294967296 = (p : Int) := by
    have h : (2 : Int) ^ s = ((2 ^ s : Nat) : Int) := by simp
    rw [h, hp]; omega
  rw [e, ← ho]
  exact u32_or_nat u p (by omega) (by omega)
theorem q_in {q m : Nat} : (2 * q + 1) * 2 ^ m = q * 2 ^ (m + 1) + 2 ^ m := by rw [Nat.pow_succ]; grind
theorem q_out {q m : Nat} : (2 * q) * 2 ^ m = q * 2 ^ (m + 1) := by rw [Nat.pow_succ]; grind
def DivO (a b : Nat) (Lq Lr : List Nat) (k : Nat) : Prop := val Lq = a / 2 ^ k / b * 2 ^ k ∧ val Lr = a / 2 ^ k % b
set_option maxRecDepth 100000 in
set_option maxHeartbeats 2000000 in
/-- linkworkref01.divide -/
theorem r_divide_c (w : World) (A : Option Addr) (n c : Nat) (l : List Nat) (wa : Wd w A n c l) (hn : n ≤ 1000000000000) (A' : Option Addr) (n' c' : Nat) (l' : List Nat) (wb : Wd w A' n' c' l') (hn' : n' ≤ 1000000000000) (h0 : val l' ≠ 0) :
    Calls Tryz.prog 158 #[.slice A n c, .slice A' n' c'] w (RetD w (val l) (val l')) := by
  have HL := Lib.hid wa.2.1
  have HL' := Lib.hid wb.2.1
  obtain ⟨va, hva⟩ : ∃ v, val l = v := ⟨_, rfl⟩
  obtain ⟨vb, hvb⟩ : ∃ v, val l' = v := ⟨_, rfl⟩
  have HA := Lib.hid hva
  have HB := Lib.hid hvb
  rw [hvb] at h0
  have H0 := Lib.hid (Nat.pos_of_ne_zero h0)
  rw [hva, hvb]
  obtain ⟨gb, ob, rfl, hgb, _⟩ := wb.at2 (by
    rcases Nat.eq_zero_or_pos n' with e | e
    · exfalso
      have h9 := HL'.out
      rw [e] at h9
      rw [List.eq_nil_of_length_eq_zero h9.symm] at hvb
      exact h0 hvb.symm
    · exact e)
  clear h0 hva hvb
  go_enter Tryz.func158, Tryz.ntmps158
  go_wp2_with (first
    | (at_make; refine wpList_make_words _ rfl _ _ rfl _ _ _ _ n rfl rfl (by omega) (by omega) (by omega) ?_)
    | (at_make; refine wpList_make_words _ rfl _ _ rfl _ _ _ _ (n' + 1) rfl rfl (by omega) (by omega) (by omega) ?_))
  (with_reducible refine (r_bits_c _ A n c l ?_ (by omega)).mono ?_); (exact wa.keep (((Kp.refl w).alloc _).alloc _)); rintro e w1 ⟨N, rfl, hN1, hN2, rfl⟩
  rw [HA.out] at hN1
  go_wp2_with fail
  have oq0 : OwS ((w.alloc (.cells (cellsOf (List.replicate n 0)) 84)).alloc (.cells (cellsOf (List.replicate (n' + 1) 0)) 84)) w.heap.size w.heap.size n n (List.replicate n 0) :=
    (OwS.made w (List.replicate n 0) n (Nat.le_refl _) (by omega) (by simp) (wds_rep n)).belw ((brefl _).alloc (Nat.le_refl _) _)
  have or0 : OwS ((w.alloc (.cells (cellsOf (List.replicate n 0)) 84)).alloc (.cells (cellsOf (List.replicate (n' + 1) 0)) 84)) w.heap.size (w.heap.size + 1) (n' + 1) (n' + 1) (List.replicate (n' + 1) 0) := by
    have h := OwS.made (w.alloc (.cells (cellsOf (List.replicate n 0)) 84)) (B := w.heap.size) (List.replicate (n' + 1) 0) (n' + 1) (by simp) (by omega) (by simp) (wds_rep _)
    simpa using h
  have HO := Lib.hid (And.intro oq0 or0)
  clear oq0 or0
  go_loopw [8] (fun iv wr => ∃ (k : Nat) (z : Int) (Lq Lr : List Nat), k ≤ N ∧ iv = .int .i64 z ∧ z + 1 = (k : Int) ∧ DivO va vb Lq Lr k ∧ OwS wr w.heap.size w.heap.size n n Lq ∧ OwS wr w.heap.size (w.heap.size + 1) (n' + 1) (n' + 1) Lr ∧ Below w.heap.size w wr) (fun iv _ => (intOf iv + 1).toNat)
  case atStart =>
    refine ⟨N, (N : Int) - 1, _, _, Nat.le_refl _, by go_num, by omega, ⟨?_, ?_⟩, HO.out.1, HO.out.2, ((brefl w).alloc (Nat.le_refl _) _).alloc (by simp) _⟩
    · rw [val_rep, Nat.div_eq_of_lt hN1]; simp
    · rw [val_rep, Nat.div_eq_of_lt hN1]; simp
  case round =>
    obtain ⟨k, z, Lq, Lr, hk, rfl, hz, hI, hq, hr, hbel⟩ := hrel
    have HK := Lib.hid ((Kp.refl w).below hbel)
    have HI := Lib.hid hI
    have HQ := Lib.hid hq
    have HR := Lib.hid hr
    have HBL := Lib.hid hbel
    clear hI hq hr hbel HO
    by_cases hk0 : k = 0
    · subst hk0
      have ez : z = -1 := by omega
      subst ez
      go_wp2_with fail
      (with_reducible refine (r_trim_c _ (some ⟨w.heap.size, 0, none⟩) n n Lq ?_ (by omega)).mono ?_); (exact HQ.out.toWd); rintro e w1 ⟨A1, n1, c1, rfl, h1, hb1⟩
      have HR2 := Lib.hid (HR.out.belw hb1)
      have HBL2 := Lib.hid (HBL.out.trans (hb1.mono HBL.out.size))
      clear hb1
      go_wp2_with fail
      (with_reducible refine (r_trim_c _ (some ⟨w.heap.size + 1, 0, none⟩) (n' + 1) (n' + 1) Lr ?_ (by omega)).mono ?_); (exact HR2.out.toWd); rintro e w2 ⟨A2, n2, c2, rfl, h2, hb2⟩
      have h1' := h1.keep ((Kp.refl w1).below hb2)
      have HBL3 := HBL2.out.trans (hb2.mono HBL2.out.size)
      rw [HI.out.1] at h1'
      rw [HI.out.2] at h2
      simp only [Nat.pow_zero, Nat.div_one, Nat.mul_one] at h1' h2
      have HF := Lib.hid (And.intro h1' (And.intro h2 HBL3))
      clear h1 h1' h2 HBL3 hb2
      go_wp2
      refine bodyPost_ret (v := .tuple #[.slice A1 n1 c1, .slice A2 n2 c2]) (by simp [results, Tryz.results158, go_sem]) rfl ?_
      exact ⟨A1, n1, c1, A2, n2, c2, rfl, HF.out.1, HF.out.2.1, HF.out.2.2⟩
    · obtain ⟨m, rfl⟩ : ∃ m, k = m + 1 := ⟨k - 1, by omega⟩
      have ez : z = (m : Int) := by omega
      subst ez
      have hm32 : m / 32 < n := by omega
      obtain ⟨ga, oa, rfl, hgl, hca⟩ := (wa.keep HK.out).at2 (by omega)
      have hcx := hca (m / 32) hm32
      obtain ⟨x, hx⟩ : ∃ x, wd l (m / 32) = x := ⟨_, rfl⟩
      have hx1 : x < 4294967296 := by rw [← hx]; exact wa.lt _
      rw [hx] at hcx
      have HX := Lib.hid hx
      obtain ⟨br, hbr⟩ : ∃ d, bits .and .u32 ((x : Int) / 2 ^ (m % 32)) 1 = d := ⟨_, rfl⟩
      obtain ⟨b, hb⟩ : ∃ b, va / 2 ^ m % 2 = b := ⟨_, rfl⟩
      have hbb : br = (b : Int) := by
        rw [← hbr, ← hb, ← HA.out, ← wd_bit wa.1 m, hx]
        have e : (x : Int) / 2 ^ (m % 32) = ((x / 2 ^ (m % 32) : Nat) : Int) := by simp
        rw [e, and_one _ (Nat.lt_of_le_of_lt (Nat.div_le_self _ _) hx1)]
      have HB1 := Lib.hid hb
      have hb1 : b ≤ 1 := by omega
      clear hca hx hz hk0 hb
      go_wp2_with fail
      try rw [hbb]
      clear hbr hbb
      go_loopw [9, 36] (fun cv kv w2 => ∃ (k cr : Nat) (L2 : List Nat), k ≤ n' + 1 ∧ kv = .int .i64 (k : Nat) ∧ cv = .int .u32 (cr : Nat) ∧ cr ≤ 1 ∧ DblI Lr L2 b k cr ∧ OwS w2 w.heap.size w.heap.size n n Lq ∧ OwS w2 w.heap.size (w.heap.size + 1) (n' + 1) (n' + 1) L2 ∧ Below w.heap.size w w2) (fun _ kv _ => n' + 1 - (intOf kv).toNat)
      case atStart => exact ⟨0, b, Lr, Nat.zero_le _, rfl, rfl, hb1, DblI.start _ _, HQ.out, HR.out, HBL.out⟩
      case round =>
        obtain ⟨k, cr, L2, hk2, rfl, rfl, hcr, hI2, hq2, hr2, hbel2⟩ := hrel
        have HI2 := Lib.hid hI2
        have HQ2 := Lib.hid hq2
        have HR2 := Lib.hid hr2
        have HBL2 := Lib.hid hbel2
        clear hI2 hq2 hr2 hbel2
        by_cases hkk : k < n' + 1
        · obtain ⟨y, hy⟩ : ∃ y, wd Lr k = y := ⟨_, rfl⟩
          have hy1 : y < 4294967296 := by rw [← hy]; exact wd_lt HR.out.2 _
          have hck := HR2.out.cell k hkk
          rw [HI2.out.1 k (Nat.le_refl _), hy] at hck
          have hfk := HR2.out.frozen k
          have HY := Lib.hid hy
          obtain ⟨s, hs⟩ : ∃ s, bits .or .u32 ((y : Int) * 2 % 4294967296) (cr : Int) = s := ⟨_, rfl⟩
          have he : s = ((y * 2 % 4294967296 + cr : Nat) : Int) := by
            rw [← hs, ← (dbl_word hcr hy1).1]
            exact u32_or_nat (y * 2 % 4294967296) cr (Nat.mod_lt _ (by decide)) (by omega)
          have HE := Lib.hid he
          have HS := Lib.hid (dbl_word hcr hy1).2
          clear hy he
          go_wp2
          go_region
          clear hs
          go_wp2
          go_roundw
          case rel =>
            have hst := HI2.out.step HY.out hy1 (by rw [← HR2.out.len]; exact hkk)
            refine ⟨k + 1, y / 2147483648, L2.set k (y * 2 % 4294967296 + cr), by omega, by go_num, by go_num, HS.out.2, hst, ?_, ?_, ?_⟩
            · exact OwS.far (w := wr) HQ2.out (p := ⟨w.heap.size + 1, k, none⟩) (by simp) _
            · exact OwS.set (w := wr) HR2.out k HS.out.1 HE.out
            · exact (Below.setCell HBL2.out (p := ⟨w.heap.size + 1, k, none⟩) (by simp) _).drew
          case measure => simp [intOf]; omega
        · have hkn : k = n' + 1 := by omega
          subst hkn
          have hv2 : val L2 = 2 * val Lr + b := by
            have h3 := HR2.out.len
            have h4 := HR.out.len
            refine DblI.fin HI2.out (by omega) (by omega) ?_
            refine dbl_room (v := vb) ?_ ?_ hb1
            · rw [HI.out.2]; exact Nat.mod_lt _ H0.out
            · rw [← HB.out, HL'.out]; exact val_lt wb.1
          rw [HI.out.2, ← HB1.out] at hv2
          obtain ⟨r2, hr2⟩ : ∃ r, val L2 = r := ⟨_, rfl⟩
          rw [hr2] at hv2
          have HV := Lib.hid hv2
          have HR2v := Lib.hid hr2
          clear hv2 hr2
          by_cases hge : vb ≤ r2
          · have hc0 : 0 ≤ cmpN r2 vb := by unfold cmpN; (repeat' split) <;> omega
            obtain ⟨cv, hcv⟩ : ∃ cv, cmpN r2 vb = cv := ⟨_, rfl⟩
            rw [hcv] at hc0
            have HC := Lib.hid hcv
            clear hcv
            go_wp2_with fail
            (with_reducible refine (r_compare_c _ (some ⟨w.heap.size + 1, 0, none⟩) (n' + 1) (n' + 1) L2 ?_ ?_ (some ⟨gb, ob, none⟩) n' c' l' ?_ ?_).mono ?_); (exact HR2.out.toWd); (omega); (exact wb.keep ((Kp.refl w).below HBL2.out)); (omega); rintro e w1 ⟨rfl, hbl1⟩
            rw [HR2v.out, HB.out, HC.out]
            have HQ3 := Lib.hid (HQ2.out.belw hbl1)
            have HR3 := Lib.hid (HR2.out.belw hbl1)
            have HBL3 := Lib.hid (HBL2.out.trans (hbl1.mono HBL2.out.size))
            clear hbl1 HQ2 HR2 HBL2
            go_wp2_with fail
            (with_reducible refine (r_take_o _ w.heap.size (w.heap.size + 1) (n' + 1) (n' + 1) L2 ?_ ?_ (some ⟨gb, ob, none⟩) n' c' l' ?_ ?_ ?_ ?_).mono ?_)
            · exact HR3.out
            · omega
            · exact wb.keep ((Kp.refl w).below HBL3.out)
            · intro ad e; injection e with e; subst e; show gb ≠ _; omega
            · omega
            · rw [HR2v.out, HB.out]; exact hge
            rintro e w2 ⟨L3, rfl, hr3, hv3, hon⟩
            rw [HR2v.out, HB.out] at hv3
            have hq3 := hon.own HQ3.out (by omega)
            have HBL4 := Lib.hid (HBL3.out.trans (hon.1.mono (by omega)))
            have HR4 := Lib.hid hr3
            have HV3 := Lib.hid hv3
            obtain ⟨u, hu⟩ : ∃ u, wd Lq (m / 32) = u := ⟨_, rfl⟩
            have hcq := hq3.cell (m / 32) hm32
            have hfq := hq3.frozen (m / 32)
            rw [hu] at hcq
            have hob := or_bit HQ.out.2 m (by rw [← HQ.out.len]; exact hm32) HI.out.1
            rw [hu] at hob
            obtain ⟨p, hp⟩ : ∃ p, 2 ^ (m % 32) = p := ⟨_, rfl⟩
            rw [hp] at hob
            have HQ4 := Lib.hid hq3
            have HOB := Lib.hid hob
            have HU := Lib.hid hu
            have HP := Lib.hid hp
            clear hr3 hv3 hon hq3 HQ3 HR3 HBL3 hu hob hp
            go_wp2
            go_region
            go_wp2
            go_roundw
            case rel =>
              have hbi := bit_in (a := va) (k := m) HV.out hge H0.out
              have he := or_word HOB.out.2.1 HOB.out.1 HP.out
              refine ⟨m, (m : Int) - 1, Lq.set (m / 32) (u + p), L3, by omega, by go_num, by omega, ⟨?_, ?_⟩, ?_, ?_, ?_⟩
              · rw [HOB.out.2.2, HI.out.1, hbi.1, q_in]
              · rw [HV3.out, hbi.2]
              · exact OwS.set (w := w2) HQ4.out (m / 32) HOB.out.2.1 he
              · exact OwS.far (w := w2) HR4.out (p := ⟨w.heap.size, m / 32, none⟩) (by simp) _
              · exact (Below.setCell HBL4.out (p := ⟨w.heap.size, m / 32, none⟩) (by simp) _).drew
            case measure => simp [intOf] <;> omega
          · have hc0 : cmpN r2 vb < 0 := by unfold cmpN; (repeat' split) <;> omega
            obtain ⟨cv, hcv⟩ : ∃ cv, cmpN r2 vb = cv := ⟨_, rfl⟩
            rw [hcv] at hc0
            have HC := Lib.hid hcv
            clear hcv
            go_wp2_with fail
            (with_reducible refine (r_compare_c _ (some ⟨w.heap.size + 1, 0, none⟩) (n' + 1) (n' + 1) L2 ?_ ?_ (some ⟨gb, ob, none⟩) n' c' l' ?_ ?_).mono ?_); (exact HR2.out.toWd); (omega); (exact wb.keep ((Kp.refl w).below HBL2.out)); (omega); rintro e w1 ⟨rfl, hbl1⟩
            rw [HR2v.out, HB.out, HC.out]
            have HQ3 := Lib.hid (HQ2.out.belw hbl1)
            have HR3 := Lib.hid (HR2.out.belw hbl1)
            have HBL3 := Lib.hid (HBL2.out.trans (hbl1.mono HBL2.out.size))
            clear hbl1 HQ2 HR2 HBL2
            go_wp2
            go_roundw
            case rel =>
              have hbi := bit_out (a := va) (k := m) HV.out (by omega)
              refine ⟨m, (m : Int) - 1, Lq, L2, by omega, by go_num, by omega, ⟨?_, ?_⟩, HQ3.out, HR3.out, HBL3.out⟩
              · rw [HI.out.1, hbi.1, q_out]
              · rw [HR2v.out, hbi.2]
            case measure => simp [intOf] <;> omega
end Go.Proofs.YtpnnfbodphflpaaGreatDoor

/- Walks: the reference's Div, of a dividend that is not negative or that the divisor divides. -/
namespace Go.Proofs.YtpnnfbodphflpaaGreatDoor
open Go Go.RowKit Bn
attribute [local go_sem ↓] Go.wp_at_zero Go.wp_at_succ
theorem r_neg_e (w : World) (b : Bool) (A : Option Addr) (n c : Nat) (l : List Nat) (s : Bool) (wa : Wd w A n c l) (hn : n ≤ 1099511627776) (hs : WD.s ⟨b, l⟩ = s) :
    Calls Tryz.prog 74 #[.agg #[.bool b, .slice A n c]] w (RetV w (.bool s)) := by subst hs; exact r_neg_c w b A n c l wa hn
theorem r_sign_x (w : World) (b : Bool) (A : Option Addr) (n c : Nat) (l : List Nat) (s : Int) (wa : Wd w A n c l) (hn : n ≤ 1099511627000) (hs : (WD.z ⟨b, l⟩).sign = s) :
    Calls Tryz.prog 94 #[.agg #[.bool b, .slice A n c]] w (RetV w (.int .i64 s)) := by subst hs; exact r_sign_c w b A n c l wa hn
theorem r_divide_e (w : World) (A : Option Addr) (n c : Nat) (l : List Nat) (wa : Wd w A n c l) (hn : n ≤ 1000000000000) (A' : Option Addr) (n' c' : Nat) (l' : List Nat) (wb : Wd w A' n' c' l') (hn' : n' ≤ 1000000000000) (x y : Nat) (hx : val l = x) (hy : val l' = y) (h0 : y ≠ 0) :
    Calls Tryz.prog 158 #[.slice A n c, .slice A' n' c'] w (RetD w x y) := by subst hx hy; exact r_divide_c w A n c l wa hn A' n' c' l' wb hn' h0
/-- What Div returns. -/
def RetDivR (w : World) (q r : Int) (e : Ending) (w' : World) : Prop := ∃ A1 n1 c1 A2 n2 c2, e = .returned (.tuple #[.agg #[.bool (wh q).neg, .slice A1 n1 c1], .agg #[.bool (wh r).neg, .slice A2 n2 c2], .int .i64 0]) ∧ Wd w' A1 n1 c1 (wh q).mag ∧ Wd w' A2 n2 c2 (wh r).mag ∧ Below w.heap.size w w'
set_option maxHeartbeats 4000000 in
/-- linkworkref01.Div -/
theorem r_div_C (w : World) (b : Bool) (A : Option Addr) (n c : Nat) (l : List Nat) (wa : Wd w A n c l) (hn : n ≤ 1000000000000) (b' : Bool) (A' : Option Addr) (n' c' : Nat) (l' : List Nat) (wb : Wd w A' n' c' l') (hn' : n' ≤ 1000000000000) (h0 : WD.z ⟨b', l'⟩ ≠ 0) (hr0 : WD.z ⟨b, l⟩ % WD.z ⟨b', l'⟩ = 0) :
    Calls Tryz.prog 132 #[.agg #[.bool b, .slice A n c], .agg #[.bool b', .slice A' n' c']] w (RetDivR w (WD.z ⟨b, l⟩ / WD.z ⟨b', l'⟩) (WD.z ⟨b, l⟩ % WD.z ⟨b', l'⟩)) := by
  have HL := Lib.hid wa.2.1
  have HL' := Lib.hid wb.2.1
  obtain ⟨s0, hs0'⟩ : ∃ s, (WD.z ⟨b', l'⟩).sign = s := ⟨_, rfl⟩
  have es0 : ((s0 : Int) == 0) = false := by simp; rintro rfl; exact h0 (Int.sign_eq_zero_iff_zero.1 hs0')
  have HSG := Lib.hid hs0'
  clear hs0'
  have hd0 : val (WD.m ⟨b', l'⟩) ∣ val (WD.m ⟨b, l⟩) := by
    rw [← z_nat ⟨b, l⟩, ← z_nat ⟨b', l'⟩]
    exact Int.natAbs_dvd_natAbs.2 (Int.dvd_of_emod_eq_zero hr0)
  rw [WD.z_eq] at h0 ⊢
  rw [WD.z_eq ⟨b', l'⟩]
  have hv2 : val (WD.m ⟨b', l'⟩) ≠ 0 := by intro e; rw [e] at h0; exact h0 (by cases (WD.s ⟨b', l'⟩) <;> rfl)
  obtain ⟨sa, hsa⟩ : ∃ s, WD.s ⟨b, l⟩ = s := ⟨_, rfl⟩
  obtain ⟨sb, hsb⟩ : ∃ s, WD.s ⟨b', l'⟩ = s := ⟨_, rfl⟩
  rw [hsa, hsb]
  obtain ⟨x, hx⟩ : ∃ x, val (WD.m ⟨b, l⟩) = x := ⟨_, rfl⟩
  obtain ⟨y, hy⟩ : ∃ y, val (WD.m ⟨b', l'⟩) = y := ⟨_, rfl⟩
  rw [hx, hy]
  rw [hx, hy] at hd0
  have HS := Lib.hid (And.intro hsa hsb)
  have HX := Lib.hid (And.intro hx hy)
  have HY := Lib.hid (show y ≠ 0 from hy ▸ hv2)
  have HR0 := Lib.hid (Nat.mod_eq_zero_of_dvd hd0)
  clear hsa hsb hx hy hv2 h0 hr0 hd0
  go_enter Tryz.func132, Tryz.ntmps132
  go_wp2_with fail
  have b0 : Below w.heap.size w ((((w.alloc (.cells #[.bool b, .slice A n c] 48)).alloc (.cells #[.bool b', .slice A' n' c'] 48)).alloc (.cells #[.bool false, .slice none 0 0] 48)).alloc (.cells #[.bool false, .slice none 0 0] 48)) := (((((Below.refl _ _).alloc (Nat.le_refl _) _).alloc (by simp) _).alloc (by simp; omega) _).alloc (by simp; omega) _)
  generalize hW0 : ((((w.alloc (.cells #[.bool b, .slice A n c] 48)).alloc (.cells #[.bool b', .slice A' n' c'] 48)).alloc (.cells #[.bool false, .slice none 0 0] 48)).alloc (.cells #[.bool false, .slice none 0 0] 48)) = W0 at b0 ⊢
  have c00 : W0.cell? ⟨w.heap.size, 0, none⟩ = some (.bool b) := by subst hW0; simp [go_sem]
  have f00 : W0.frozen? ⟨w.heap.size, 0, none⟩ = false := by subst hW0; simp [go_sem]
  have c01 : W0.cell? ⟨w.heap.size, 1, none⟩ = some (.slice A n c) := by subst hW0; simp [go_sem]
  have f01 : W0.frozen? ⟨w.heap.size, 1, none⟩ = false := by subst hW0; simp [go_sem]
  have c10 : W0.cell? ⟨w.heap.size + 1, 0, none⟩ = some (.bool b') := by subst hW0; simp [go_sem]
  have f10 : W0.frozen? ⟨w.heap.size + 1, 0, none⟩ = false := by subst hW0; simp [go_sem]
  have c11 : W0.cell? ⟨w.heap.size + 1, 1, none⟩ = some (.slice A' n' c') := by subst hW0; simp [go_sem]
  have f11 : W0.frozen? ⟨w.heap.size + 1, 1, none⟩ = false := by subst hW0; simp [go_sem]
  have c20 : W0.cell? ⟨w.heap.size + 1 + 1, 0, none⟩ = some (.bool false) := by subst hW0; simp [go_sem]
  have f20 : W0.frozen? ⟨w.heap.size + 1 + 1, 0, none⟩ = false := by subst hW0; simp [go_sem]
  have c21 : W0.cell? ⟨w.heap.size + 1 + 1, 1, none⟩ = some (.slice none 0 0) := by subst hW0; simp [go_sem]
  have f21 : W0.frozen? ⟨w.heap.size + 1 + 1, 1, none⟩ = false := by subst hW0; simp [go_sem]
  have c30 : W0.cell? ⟨w.heap.size + 1 + 1 + 1, 0, none⟩ = some (.bool false) := by subst hW0; simp [go_sem]
  have f30 : W0.frozen? ⟨w.heap.size + 1 + 1 + 1, 0, none⟩ = false := by subst hW0; simp [go_sem]
  have c31 : W0.cell? ⟨w.heap.size + 1 + 1 + 1, 1, none⟩ = some (.slice none 0 0) := by subst hW0; simp [go_sem]
  have f31 : W0.frozen? ⟨w.heap.size + 1 + 1 + 1, 1, none⟩ = false := by subst hW0; simp [go_sem]
  have x0 : Box W0 (w.heap.size) 48 := by subst hW0; exact (((boxAt _ _ _ (by simp)).alloc _).alloc _).alloc _
  have x1 : Box W0 (w.heap.size + 1) 48 := by subst hW0; exact ((boxAt _ _ _ (by simp)).alloc _).alloc _
  have x2 : Box W0 (w.heap.size + 1 + 1) 48 := by subst hW0; exact (boxAt _ _ _ (by simp)).alloc _
  have x3 : Box W0 (w.heap.size + 1 + 1 + 1) 48 := by subst hW0; exact boxAt _ _ _ (by simp)
  have hm0 : Made (w.heap.size + 1 + 1) (w.heap.size + 1 + 1 + 1 + 1) 2 W0 := by subst hW0; exact made2 (by simp) rfl
  have hs0 : w.heap.size + 1 + 1 + 1 + 1 ≤ W0.heap.size := by subst hW0; simp
  clear hW0
  have wa := wa.belw b0
  have wb := wb.belw b0
  have r0 : Below W0.heap.size W0 W0 := brefl _
  go_wp2_with (first
    | (go_at_call 94; (with_reducible refine (r_sign_x _ b' A' n' c' l' s0 ?_ ?_ ?_).mono ?_); (exact wb); (omega); (exact HSG.out); rintro e w1 ⟨rfl, hb1⟩; have r1 := bnext r0 hb1; replace wa := wa.belw hb1; replace wb := wb.belw hb1; (try clear sc sf sr sz); obtain ⟨⟨sc, sf⟩, sr, sz⟩ := Seen.of (by omega) hs0 hm0 r1))
  (try clear sc sf sr sz)
  have hRB : w.heap.size + 1 + 1 ≤ w.heap.size + 1 + 1 + 1 + 1 := by omega
  go_region_held3 (fun w' => Sees (w.heap.size + 1 + 1) W0 w') (first | exact Sees.of (Nat.le_trans hRB hs0) (by assumption) | exact Sees.of (Nat.le_trans hRB hs0) (below_drewN (by assumption) _))
    (first
      | (go_at_call 72; (with_reducible refine (r_mag_c _ b A n c l ?_ ?_).mono ?_); (exact wa); (omega); rintro e w2 ⟨A2, n2, c2, rfl, h2, hb2⟩; replace hb2 := bnext (below_drewN (brefl _) 1) hb2; have r2 := bnext r1 hb2; replace wa := wa.belw hb2; replace wb := wb.belw hb2)
      | (go_at_call 72; (with_reducible refine (r_mag_c _ b' A' n' c' l' ?_ ?_).mono ?_); (exact wb); (omega); rintro e w3 ⟨A3, n3, c3, rfl, h3, hb3⟩; have r3 := bnext r2 hb3; replace wa := wa.belw hb3; replace wb := wb.belw hb3; replace h2 := h2.belw hb3)
      | (go_at_call 158; (with_reducible refine (r_divide_e _ A2 n2 c2 (WD.m ⟨b, l⟩) ?_ ?_ A3 n3 c3 (WD.m ⟨b', l'⟩) ?_ ?_ x y ?_ ?_ ?_).mono ?_); (exact h2); (exact h2.m_len (by rw [← HL.out]; exact hn)); (exact h3); (exact h3.m_len (by rw [← HL'.out]; exact hn')); (exact HX.out.1); (exact HX.out.2); (exact HY.out); rintro e w4 ⟨A4, n4, c4, A5, n5, c5, rfl, h4, h5, hb4⟩; have r4 := bnext r3 hb4; replace wa := wa.belw hb4; replace wb := wb.belw hb4; replace h2 := h2.belw hb4; replace h3 := h3.belw hb4))
  obtain ⟨⟨sc, sf⟩, sr, sz⟩ := Seen.of (by omega) hs0 hm0 r4
  clear hRB
  have hn4 : n4 ≤ 1000000000000 := by
    rw [h4.2.1]; exact dlen (Nat.lt_of_le_of_lt (Nat.div_le_self _ _) (HX.out.1 ▸ h2.vlt (Nat.le_refl _))) (h2.m_len (by rw [← HL.out]; exact hn))
  have hn5 : n5 = 0 := by rw [h5.2.1, HR0.out, digs_zero]; rfl
  subst hn5
  cases sa
  · go_wp2_with (first
      | (go_at_call 74; (with_reducible refine (r_neg_e _ b A n c l false ?_ ?_ ?_).mono ?_); (exact wa); (omega); (exact HS.out.1); rintro e w5 ⟨rfl, hb5⟩; have r5 := bnext r4 hb5; replace wa := wa.belw hb5; replace wb := wb.belw hb5; replace h2 := h2.belw hb5; replace h3 := h3.belw hb5; replace h4 := h4.belw hb5; replace h5 := h5.belw hb5; (try clear sc sf sr sz); obtain ⟨⟨sc, sf⟩, sr, sz⟩ := Seen.of (by omega) hs0 hm0 r5))
    have HZ := Lib.hid (div_plain (sa := false) (sb := sb) (x := x) HY.out (.inr HR0.out))
    (try clear sc sf sr sz)
    have hRB : w.heap.size + 1 + 1 ≤ w.heap.size + 1 + 1 + 1 + 1 := by omega
    go_region_held3 (fun w' => Sees (w.heap.size + 1 + 1) W0 w') (first | exact Sees.of (Nat.le_trans hRB hs0) (by assumption) | exact Sees.of (Nat.le_trans hRB hs0) (below_drewN (by assumption) _) | exact (Sees.set (Sees.of (Nat.le_trans hRB hs0) (by assumption)) (by simp)) | exact (Sees.set (Sees.set (Sees.of (Nat.le_trans hRB hs0) (by assumption)) (by simp)) (by simp)) | exact (Sees.set (Sees.set (Sees.set (Sees.of (Nat.le_trans hRB hs0) (by assumption)) (by simp)) (by simp)) (by simp)) | exact (Sees.set (Sees.set (Sees.set (Sees.set (Sees.of (Nat.le_trans hRB hs0) (by assumption)) (by simp)) (by simp)) (by simp)) (by simp)))
      (first
        | (go_at_call 74; (with_reducible refine (r_neg_e _ b A n c l false ?_ ?_ ?_).mono ?_); (exact wa); (omega); (exact HS.out.1); rintro e w6 ⟨rfl, hb6⟩; replace hb6 := bnext (below_drewN (brefl _) 1) hb6; have r6 := bnext r5 hb6; replace wa := wa.belw hb6; replace wb := wb.belw hb6; replace h2 := h2.belw hb6; replace h3 := h3.belw hb6; replace h4 := h4.belw hb6; replace h5 := h5.belw hb6)
        | (go_at_call 74; (with_reducible refine (r_neg_e _ b' A' n' c' l' sb ?_ ?_ ?_).mono ?_); (exact wb); (omega); (exact HS.out.2); rintro e w7 ⟨rfl, hb7⟩; have r7 := bnext r6 hb7; replace wa := wa.belw hb7; replace wb := wb.belw hb7; replace h2 := h2.belw hb7; replace h3 := h3.belw hb7; replace h4 := h4.belw hb7; replace h5 := h5.belw hb7)
        | (go_at_call 65; (with_reducible refine (r_form_e _ sb A4 n4 c4 (digs (x / y)) (sgn false x / sgn sb y) ?_ ?_ ?_).mono ?_); (exact h4); (omega); (rw [HZ.out.1, val_digs]; cases sb <;> rfl); rintro e w8 ⟨A8, n8, c8, rfl, h8, hb8⟩; have r8 := bnext r7 hb8; replace wa := wa.belw hb8; replace wb := wb.belw hb8; replace h2 := h2.belw hb8; replace h3 := h3.belw hb8; replace h4 := h4.belw hb8; replace h5 := h5.belw hb8)
        | (go_at_call 65; (with_reducible refine (r_form_e _ false A5 0 c5 (digs (x % y)) (sgn false x % sgn sb y) ?_ ?_ ?_).mono ?_); (exact h5); (omega); (rw [HZ.out.2, val_digs]; rfl); rintro e w9 ⟨A9, n9, c9, rfl, h9, hb9⟩; have r9 := bnext r8 hb9; replace wa := wa.belw hb9; replace wb := wb.belw hb9; replace h2 := h2.belw hb9; replace h3 := h3.belw hb9; replace h4 := h4.belw hb9; replace h5 := h5.belw hb9; replace h8 := h8.belw hb9; obtain ⟨⟨sc, sf⟩, sr, sz⟩ := Seen.of (by omega) hs0 hm0 r9))
    clear hRB
    go_wp2_with fail
    refine bodyPost_ret (v := .tuple #[.agg #[.bool _, .slice A8 n8 c8], .agg #[.bool _, .slice A9 n9 c9], .int .i64 0]) (by simp [results, Tryz.results132, go_sem, sr]; first | rfl | exact ⟨rfl, rfl⟩) rfl ?_
    have y2 := x2.below r9
    have y3 := x3.below r9
    refine ⟨A8, n8, c8, A9, n9, c9, rfl, ?_, ?_, ?_⟩
    · exact h8.keep (kp4 y2 y3 (by decide) (by decide) _ _ _ _ _ _ _ _)
    · exact h9.keep (kp4 y2 y3 (by decide) (by decide) _ _ _ _ _ _ _ _)
    · exact ((((b0.trans (r9.mono b0.size)).setCell (by dsimp only; omega) _).setCell (by dsimp only; omega) _).setCell (by dsimp only; omega) _).setCell (by dsimp only; omega) _
  · go_wp2_with (first
      | (go_at_call 74; (with_reducible refine (r_neg_e _ b A n c l true ?_ ?_ ?_).mono ?_); (exact wa); (omega); (exact HS.out.1); rintro e w5 ⟨rfl, hb5⟩; have r5 := bnext r4 hb5; replace wa := wa.belw hb5; replace wb := wb.belw hb5; replace h2 := h2.belw hb5; replace h3 := h3.belw hb5; replace h4 := h4.belw hb5; replace h5 := h5.belw hb5; (try clear sc sf sr sz); obtain ⟨⟨sc, sf⟩, sr, sz⟩ := Seen.of (by omega) hs0 hm0 r5))
    have HZ := Lib.hid (div_plain (sa := true) (sb := sb) (x := x) HY.out (.inr HR0.out))
    (try clear sc sf sr sz)
    have hRB : w.heap.size + 1 + 1 ≤ w.heap.size + 1 + 1 + 1 + 1 := by omega
    go_region_held3 (fun w' => Sees (w.heap.size + 1 + 1) W0 w') (first | exact Sees.of (Nat.le_trans hRB hs0) (by assumption) | exact Sees.of (Nat.le_trans hRB hs0) (below_drewN (by assumption) _) | exact (Sees.set (Sees.of (Nat.le_trans hRB hs0) (by assumption)) (by simp)) | exact (Sees.set (Sees.set (Sees.of (Nat.le_trans hRB hs0) (by assumption)) (by simp)) (by simp)) | exact (Sees.set (Sees.set (Sees.set (Sees.of (Nat.le_trans hRB hs0) (by assumption)) (by simp)) (by simp)) (by simp)) | exact (Sees.set (Sees.set (Sees.set (Sees.set (Sees.of (Nat.le_trans hRB hs0) (by assumption)) (by simp)) (by simp)) (by simp)) (by simp)))
      (first
        | (go_at_call 74; (with_reducible refine (r_neg_e _ b A n c l true ?_ ?_ ?_).mono ?_); (exact wa); (omega); (exact HS.out.1); rintro e w6 ⟨rfl, hb6⟩; replace hb6 := bnext (below_drewN (brefl _) 1) hb6; have r6 := bnext r5 hb6; replace wa := wa.belw hb6; replace wb := wb.belw hb6; replace h2 := h2.belw hb6; replace h3 := h3.belw hb6; replace h4 := h4.belw hb6; replace h5 := h5.belw hb6)
        | (go_at_call 74; (with_reducible refine (r_neg_e _ b' A' n' c' l' sb ?_ ?_ ?_).mono ?_); (exact wb); (omega); (exact HS.out.2); rintro e w7 ⟨rfl, hb7⟩; have r7 := bnext r6 hb7; replace wa := wa.belw hb7; replace wb := wb.belw hb7; replace h2 := h2.belw hb7; replace h3 := h3.belw hb7; replace h4 := h4.belw hb7; replace h5 := h5.belw hb7)
        | (go_at_call 65; (with_reducible refine (r_form_e _ (!sb) A4 n4 c4 (digs (x / y)) (sgn true x / sgn sb y) ?_ ?_ ?_).mono ?_); (exact h4); (omega); (rw [HZ.out.1, val_digs]; cases sb <;> rfl); rintro e w8 ⟨A8, n8, c8, rfl, h8, hb8⟩; have r8 := bnext r7 hb8; replace wa := wa.belw hb8; replace wb := wb.belw hb8; replace h2 := h2.belw hb8; replace h3 := h3.belw hb8; replace h4 := h4.belw hb8; replace h5 := h5.belw hb8)
        | (go_at_call 65; (with_reducible refine (r_form_e _ false A5 0 c5 (digs (x % y)) (sgn true x % sgn sb y) ?_ ?_ ?_).mono ?_); (exact h5); (omega); (rw [HZ.out.2, val_digs]; rfl); rintro e w9 ⟨A9, n9, c9, rfl, h9, hb9⟩; have r9 := bnext r8 hb9; replace wa := wa.belw hb9; replace wb := wb.belw hb9; replace h2 := h2.belw hb9; replace h3 := h3.belw hb9; replace h4 := h4.belw hb9; replace h5 := h5.belw hb9; replace h8 := h8.belw hb9; obtain ⟨⟨sc, sf⟩, sr, sz⟩ := Seen.of (by omega) hs0 hm0 r9))
    clear hRB
    go_wp2_with fail
    refine bodyPost_ret (v := .tuple #[.agg #[.bool _, .slice A8 n8 c8], .agg #[.bool _, .slice A9 n9 c9], .int .i64 0]) (by simp [results, Tryz.results132, go_sem, sr]; first | rfl | exact ⟨rfl, rfl⟩) rfl ?_
    have y2 := x2.below r9
    have y3 := x3.below r9
    refine ⟨A8, n8, c8, A9, n9, c9, rfl, ?_, ?_, ?_⟩
    · exact h8.keep (kp4 y2 y3 (by decide) (by decide) _ _ _ _ _ _ _ _)
    · exact h9.keep (kp4 y2 y3 (by decide) (by decide) _ _ _ _ _ _ _ _)
    · exact ((((b0.trans (r9.mono b0.size)).setCell (by dsimp only; omega) _).setCell (by dsimp only; omega) _).setCell (by dsimp only; omega) _).setCell (by dsimp only; omega) _
theorem r01_div (w : World) (b : Bool) (A : Option Addr) (n c : Nat) (z : Int) (k : Nat) (h : IZ w b A n c z k) (b' : Bool) (A' : Option Addr) (n' c' : Nat) (z' : Int) (k' : Nat) (h' : IZ w b' A' n' c' z' k') (hk : k + k' ≤ 1000000000) (h0 : z' ≠ 0) (hr : z % z' = 0) : Calls Tryz.prog 132 #[.agg #[.bool b, .slice A n c], .agg #[.bool b', .slice A' n' c']] w (RetDv w (.int .i64 0) (z / z') (z % z') (k + k')) := by
  have hz := h.mono (Nat.le_add_right k k') |>.lt
  have hz' := h'.mono (Nat.le_add_left k' k) |>.lt
  obtain ⟨l, h1, rfl, h3⟩ := h
  obtain ⟨l', h1', rfl, h3'⟩ := h'
  refine (r_div_C w b A n c l h1 (by omega) b' A' n' c' l' h1' (by omega) h0 hr).mono fun _ _ r => ?_
  obtain ⟨A1, n1, c1, A2, n2, c2, rfl, r1, r2, r3⟩ := r
  refine ⟨_, A1, n1, c1, _, A2, n2, c2, rfl, IV.mk_ r1 rfl ?_, IV.mk_ r2 rfl ?_, r3⟩
  · exact Nat.lt_of_le_of_lt (Int.natAbs_ediv_le_natAbs _ _) hz
  · have e1 := Int.emod_nonneg (WD.z ⟨b, l⟩) h0
    have e2 := Int.emod_lt (WD.z ⟨b, l⟩) h0
    omega
end Go.Proofs.YtpnnfbodphflpaaGreatDoor

/- Walks: quotients by nothing; errors as numbers. -/
namespace Go.Proofs.YtpnnfbodphflpaaGreatDoor
open Go Go.RowKit Bn

set_option maxRecDepth 100000 in
set_option maxHeartbeats 2000000 in
/-- integer.Div, the divisor being 0 -/
theorem i_div0 (w : World) (b : Bool) (A : Option Addr) (n c : Nat) (z : Int) (k : Nat) (h : IZ w b A n c z k) (b' : Bool) (A' : Option Addr) (n' c' : Nat) (z' : Int) (k' : Nat) (h' : IZ w b' A' n' c' z' k') (hk : k + k' ≤ 1000000000) (h0 : z' = 0) :
    Calls Tryz.prog 51 #[.agg #[.bool b, .slice A n c], .agg #[.bool b', .slice A' n' c']] w (RetDv w (.iface 71 (.int .i64 8)) 0 0 (k + k')) := by
  obtain ⟨l', wb, hz', hn'⟩ := h'
  have hm : WD.m ⟨b', l'⟩ = [] := by
    have h1 := z_nat ⟨b', l'⟩
    rw [hz', h0] at h1
    exact (val_eq_zero (WD.canon_m wb.1)).1 h1.symm
  have HM := Lib.hid hm
  clear hm hz' h
  have b1 : Below w.heap.size w ((((w.alloc (.cells #[.bool b, .slice A n c] 48)).alloc (.cells #[.bool b', .slice A' n' c'] 48)).alloc (.cells #[.bool false, .slice none 0 0] 48)).alloc (.cells #[.bool false, .slice none 0 0] 48)) := ((((Below.refl _ _).alloc (Nat.le_refl _) _).alloc (by simp) _).alloc (by simp; omega) _).alloc (by simp; omega) _
  have y1 : Blk ((((w.alloc (.cells #[.bool b, .slice A n c] 48)).alloc (.cells #[.bool b', .slice A' n' c'] 48)).alloc (.cells #[.bool false, .slice none 0 0] 48)).alloc (.cells #[.bool false, .slice none 0 0] 48)) (w.heap.size + 1 + 1) 48 #[.bool false, .slice none 0 0] := (blkAt _ _ _ (by simp)).alloc _
  have z1 : Blk ((((w.alloc (.cells #[.bool b, .slice A n c] 48)).alloc (.cells #[.bool b', .slice A' n' c'] 48)).alloc (.cells #[.bool false, .slice none 0 0] 48)).alloc (.cells #[.bool false, .slice none 0 0] 48)) (w.heap.size + 1 + 1 + 1) 48 #[.bool false, .slice none 0 0] := blkAt _ _ _ (by simp)
  go_enter Tryz.func51, Tryz.ntmps51
  go_wp2_with (go_at_call 66; (with_reducible refine (mag_c _ b' A' n' c' l' ?_ ?_).mono ?_); (exact wb.belw b1); (omega); rintro e w2 ⟨A1, n1, c1, rfl, h1, hb2⟩; rw [HM.out] at h1; obtain rfl : n1 = 0 := h1.2.1; have b2 := b1.trans (hb2.mono b1.size); have y2 := y1.below hb2 y1.lt; have z2 := z1.below hb2 z1.lt; obtain ⟨cy0, cy1⟩ := y2.c2; obtain ⟨fy0, fy1⟩ := y2.f2; obtain ⟨cz0, cz1⟩ := z2.c2; obtain ⟨fz0, fz1⟩ := z2.f2; have ly := y2.lt; have lz := z2.lt)
  refine bodyPost_ret (v := .tuple #[.agg #[.bool false, .slice none 0 0], .agg #[.bool false, .slice none 0 0], .iface 71 (.int .i64 8)]) (by simp [results, Tryz.results51, go_sem, *] <;> first | rfl | exact ⟨rfl, rfl⟩) rfl ?_
  exact ⟨_, _, _, _, _, _, _, _, rfl, IV.zero _ _, IV.zero _ _, (((b2.setCell (by dsimp only; omega) _).setCell (by dsimp only; omega) _).setCell (by dsimp only; omega) _).setCell (by dsimp only; omega) _⟩
set_option maxRecDepth 100000 in
set_option maxHeartbeats 2000000 in
/-- linkworkref01.Div, the divisor being 0 -/
theorem r01_div0 (w : World) (b : Bool) (A : Option Addr) (n c : Nat) (z : Int) (k : Nat) (h : IZ w b A n c z k) (b' : Bool) (A' : Option Addr) (n' c' : Nat) (z' : Int) (k' : Nat) (h' : IZ w b' A' n' c' z' k') (hk : k + k' ≤ 1000000000) (h0 : z' = 0) :
    Calls Tryz.prog 132 #[.agg #[.bool b, .slice A n c], .agg #[.bool b', .slice A' n' c']] w (RetDv w (.int .i64 8) 0 0 (k + k')) := by
  obtain ⟨l', wb, hz', hn'⟩ := h'
  have hs : (WD.z ⟨b', l'⟩).sign = 0 := by rw [hz', h0]; rfl
  have HS := Lib.hid hs
  clear hs hz' h
  have b1 : Below w.heap.size w ((((w.alloc (.cells #[.bool b, .slice A n c] 48)).alloc (.cells #[.bool b', .slice A' n' c'] 48)).alloc (.cells #[.bool false, .slice none 0 0] 48)).alloc (.cells #[.bool false, .slice none 0 0] 48)) := ((((Below.refl _ _).alloc (Nat.le_refl _) _).alloc (by simp) _).alloc (by simp; omega) _).alloc (by simp; omega) _
  have y1 : Blk ((((w.alloc (.cells #[.bool b, .slice A n c] 48)).alloc (.cells #[.bool b', .slice A' n' c'] 48)).alloc (.cells #[.bool false, .slice none 0 0] 48)).alloc (.cells #[.bool false, .slice none 0 0] 48)) (w.heap.size + 1 + 1) 48 #[.bool false, .slice none 0 0] := (blkAt _ _ _ (by simp)).alloc _
  have z1 : Blk ((((w.alloc (.cells #[.bool b, .slice A n c] 48)).alloc (.cells #[.bool b', .slice A' n' c'] 48)).alloc (.cells #[.bool false, .slice none 0 0] 48)).alloc (.cells #[.bool false, .slice none 0 0] 48)) (w.heap.size + 1 + 1 + 1) 48 #[.bool false, .slice none 0 0] := blkAt _ _ _ (by simp)
  go_enter Tryz.func132, Tryz.ntmps132
  go_wp2_with (go_at_call 94; (with_reducible refine (r_sign_x _ b' A' n' c' l' 0 ?_ ?_ HS.out).mono ?_); (exact wb.belw b1); (omega); rintro e w2 ⟨rfl, hb2⟩; have b2 := b1.trans (hb2.mono b1.size); have y2 := y1.below hb2 y1.lt; have z2 := z1.below hb2 z1.lt; obtain ⟨cy0, cy1⟩ := y2.c2; obtain ⟨fy0, fy1⟩ := y2.f2; obtain ⟨cz0, cz1⟩ := z2.c2; obtain ⟨fz0, fz1⟩ := z2.f2; have ly := y2.lt; have lz := z2.lt)
  refine bodyPost_ret (v := .tuple #[.agg #[.bool false, .slice none 0 0], .agg #[.bool false, .slice none 0 0], .int .i64 8]) (by simp [results, Tryz.results132, go_sem, *] <;> first | rfl | exact ⟨rfl, rfl⟩) rfl ?_
  exact ⟨_, _, _, _, _, _, _, _, rfl, IV.zero _ _, IV.zero _ _, (((b2.setCell (by dsimp only; omega) _).setCell (by dsimp only; omega) _).setCell (by dsimp only; omega) _).setCell (by dsimp only; omega) _⟩
set_option maxRecDepth 100000 in
set_option maxHeartbeats 1000000 in
/-- linkworkbase.Num -/
theorem b_num_nil (w : World) : Calls Tryz.prog 13 #[.nilIface] w (RetV w (.int .i64 0)) := by
  go_enter Tryz.func13, Tryz.ntmps13
  go_wp2
  go_ret
  exact ⟨rfl, brefl w⟩
theorem run_as_err (x : Int) (w : World) : (Instr.typeAssert (.iface 71 (.int .i64 x)) 30 71 true).run Tryz.prog w = .ok (.tuple #[.int .i64 x, .bool true]) w := by
  simp [Instr.typeAssert, run_underlying Tryz.underlying71]
set_option maxRecDepth 100000 in
set_option maxHeartbeats 1000000 in
theorem b_num_err (w : World) (x : Int) : Calls Tryz.prog 13 #[.iface 71 (.int .i64 x)] w (RetV w (.int .i64 x)) := by
  go_enter Tryz.func13, Tryz.ntmps13
  have hr := run_as_err x
  go_wp2
  go_ret
  exact ⟨rfl, brefl w⟩
end Go.Proofs.YtpnnfbodphflpaaGreatDoor

/- Digits one by one; texts read as numbers: plain. -/
namespace Bn
open Go.Lib
/-- The digits of a number, none of 0. -/
def dg (V : Nat) : List UInt8 := if V = 0 then [] else decDigits V
theorem dg_zero : dg 0 = [] := rfl
theorem dg_pos {V : Nat} (h : 0 < V) : dg V = decDigits V := if_neg (by omega)
theorem dg_step {V : Nat} (h : 0 < V) : dg V = dg (V / 10) ++ [UInt8.ofNat (48 + V % 10)] := by
  unfold dg
  rw [if_neg (by omega)]
  by_cases h1 : V < 10
  · rw [if_pos (by omega), decDigits_one h1, Nat.mod_eq_of_lt h1]; rfl
  · rw [if_neg (by omega)]; conv => lhs; rw [decDigits, dif_neg h1]
/-- How the reference's text grows: k digits of this group are out. -/
def DgI (N q k r : Nat) (s : List UInt8) : Prop := decDigits N = dg (q * 10 ^ (9 - k) + r) ++ s ∧ r < 10 ^ (9 - k)
theorem DgI.start {N Q : Nat} {s : List UInt8} (h : decDigits N = dg Q ++ s) : DgI N (Q / 1000000000) 0 (Q % 1000000000) s := by
  refine ⟨?_, Nat.mod_lt _ (by decide)⟩
  rw [show Q / 1000000000 * 10 ^ (9 - 0) + Q % 1000000000 = Q by rw [Nat.mul_comm]; exact Nat.div_add_mod Q 1000000000]
  exact h
theorem DgI.step {N q k r : Nat} {s : List UInt8} (h : DgI N q k r s) (hk : k < 9) (h0 : 0 < r ∨ 0 < q) : DgI N q (k + 1) (r / 10) ([UInt8.ofNat (48 + r % 10)] ++ s) := by
  obtain ⟨h1, h2⟩ := h
  have e : 10 ^ (9 - k) = 10 ^ (9 - (k + 1)) * 10 := by rw [← Nat.pow_succ]; congr 1; omega
  rw [e] at h1 h2
  have hp : 0 < 10 ^ (9 - (k + 1)) := Nat.pow_pos (by omega)
  unfold DgI
  generalize 10 ^ (9 - (k + 1)) = P at *
  have e2 : q * (P * 10) + r = (q * P + r / 10) * 10 + r % 10 := by rw [← Nat.mul_assoc]; omega
  have h3 : 0 < q * (P * 10) + r := by
    rcases h0 with h | h
    · omega
    · have := Nat.mul_pos h (show 0 < P * 10 by omega); omega
  refine ⟨?_, by omega⟩
  rw [h1, dg_step h3, e2, show ((q * P + r / 10) * 10 + r % 10) / 10 = q * P + r / 10 by omega, show ((q * P + r / 10) * 10 + r % 10) % 10 = r % 10 by omega, List.append_assoc]
theorem DgI.done9 {N q r : Nat} {s : List UInt8} (h : DgI N q 9 r s) : decDigits N = dg q ++ s := by
  obtain ⟨h1, h2⟩ := h
  have : r = 0 := by simpa using h2
  subst this
  simpa using h1
theorem DgI.done0 {N k : Nat} {s : List UInt8} (h : DgI N 0 k 0 s) : decDigits N = dg 0 ++ s := by
  obtain ⟨h1, _⟩ := h
  simpa using h1
theorem dg_len {N Q : Nat} {s : List UInt8} (h : decDigits N = dg Q ++ s) : s.length ≤ nDigits N := by
  rw [← decDigits_length, h, List.length_append]; omega
theorem DgI.len {N q k r : Nat} {s : List UInt8} (h : DgI N q k r s) : s.length ≤ nDigits N := dg_len h.1

/-! ### Texts read -/
def isDg (c : UInt8) : Bool := decide (48 ≤ c.toNat) && decide (c.toNat ≤ 57)
def dval (c : UInt8) : Nat := c.toNat - 48
/-- What digits say. -/
def decVal (l : List UInt8) : Nat := l.foldl (fun a c => a * 10 + dval c) 0
theorem foldl_dec (l : List UInt8) : ∀ a, l.foldl (fun a c => a * 10 + dval c) a = a * 10 ^ l.length + decVal l := by
  unfold decVal
  induction l with
  | nil => intro a; simp
  | cons x r ih =>
    intro a
    rw [List.foldl_cons, ih, List.foldl_cons, ih (0 * 10 + dval x), List.length_cons, Nat.pow_succ, Nat.add_mul]
    rw [Nat.zero_mul, Nat.zero_add, Nat.mul_assoc, Nat.mul_comm 10, Nat.add_assoc]
theorem decVal_app (a b : List UInt8) : decVal (a ++ b) = decVal a * 10 ^ b.length + decVal b := by
  conv => lhs; unfold decVal
  rw [List.foldl_append, foldl_dec]; rfl
theorem decVal_snoc (a : List UInt8) (c : UInt8) : decVal (a ++ [c]) = decVal a * 10 + dval c := by
  rw [decVal_app]; simp [decVal]
theorem decVal_lt : ∀ {l : List UInt8}, l.all isDg = true → decVal l < 10 ^ l.length := by
  intro l
  induction l with
  | nil => intro _; simp [decVal]
  | cons x r ih =>
    intro h
    rw [List.all_cons, Bool.and_eq_true] at h
    have h1 := ih h.2
    have hx : dval x ≤ 9 := by
      have := h.1; unfold isDg at this; simp at this; unfold dval; omega
    have e : decVal (x :: r) = dval x * 10 ^ r.length + decVal r := by
      have := decVal_app [x] r
      simpa [decVal] using this
    rw [e, List.length_cons, Nat.pow_succ]
    have := Nat.mul_le_mul_right (10 ^ r.length) hx
    omega
/-- The digits of a text behind its sign. -/
def tailS (l : List UInt8) : List UInt8 := match l with | 45 :: r => r | l => l
def headM (l : List UInt8) : Bool := match l with | 45 :: _ => true | _ => false
/-- The text of an integer. -/
def okZ (l : List UInt8) : Bool := decide (tailS l ≠ []) && (tailS l).all isDg && !(decide ((tailS l).head? = some 48) && (decide (1 < (tailS l).length) || headM l))
def valZ (l : List UInt8) : Int := if headM l then -(decVal (tailS l) : Int) else decVal (tailS l)
theorem digit_ok {d : Nat} (h : d < 10) : isDg (UInt8.ofNat (48 + d)) = true ∧ dval (UInt8.ofNat (48 + d)) = d := by
  have e : (UInt8.ofNat (48 + d)).toNat = 48 + d := by simp; omega
  unfold isDg dval
  rw [e]
  simp; omega
theorem dec_all (n : Nat) : (decDigits n).all isDg = true ∧ decVal (decDigits n) = n := by
  induction n using Nat.strongRecOn with
  | ind n ih =>
    by_cases h : n < 10
    · rw [decDigits_one h]
      have h1 := digit_ok h
      generalize UInt8.ofNat (48 + n) = c at h1
      refine ⟨by rw [List.all_cons, h1.1]; rfl, ?_⟩
      rw [← List.nil_append [c], decVal_snoc, h1.2]; simp [decVal]
    · have e : decDigits n = decDigits (n / 10) ++ [UInt8.ofNat (48 + n % 10)] := by
        conv => lhs; rw [decDigits, dif_neg h]
      have h1 := ih (n / 10) (by omega)
      have h2 := digit_ok (Nat.mod_lt n (show 0 < 10 by omega))
      generalize UInt8.ofNat (48 + n % 10) = c at h2 e
      refine ⟨by rw [e, List.all_append, h1.1, List.all_cons, h2.1]; rfl, ?_⟩
      rw [e, decVal_snoc, h1.2, h2.2]; omega
theorem dec_ne (n : Nat) : decDigits n ≠ [] := by
  intro h
  have := decDigits_length n
  rw [h] at this
  have := nDigits_pos n
  simp at *; omega
theorem dec_head {n : Nat} (h : 0 < n) : ∃ c r, decDigits n = c :: r ∧ c ≠ 48 ∧ c ≠ 45 := by
  induction n using Nat.strongRecOn with
  | ind n ih =>
    by_cases h1 : n < 10
    · rw [decDigits_one h1]
      refine ⟨_, [], rfl, ?_, ?_⟩
      · intro e
        have := congrArg UInt8.toNat e
        simp at this; omega
      · intro e
        have := congrArg UInt8.toNat e
        simp at this; omega
    · have e : decDigits n = decDigits (n / 10) ++ [UInt8.ofNat (48 + n % 10)] := by
        conv => lhs; rw [decDigits, dif_neg h1]
      obtain ⟨c, r, h2, h3⟩ := ih (n / 10) (by omega) (by omega)
      exact ⟨c, r ++ [UInt8.ofNat (48 + n % 10)], by rw [e, h2]; rfl, h3⟩
theorem itoa_ok (z : Int) : okZ (itoa z) = true ∧ valZ (itoa z) = z := by
  rw [itoa_abs]
  rcases Nat.eq_zero_or_pos z.natAbs with h | h
  · have : z = 0 := by omega
    subst this
    rw [if_neg (by decide), show (0 : Int).natAbs = 0 from rfl, decDigits_one (by omega)]
    decide
  · obtain ⟨c, r, e, h1, h2⟩ := dec_head h
    have ha := dec_all z.natAbs
    by_cases hz : z < 0
    · rw [if_pos hz]
      have et : tailS ([45] ++ decDigits z.natAbs) = decDigits z.natAbs := rfl
      have em : headM ([45] ++ decDigits z.natAbs) = true := rfl
      unfold okZ valZ
      rw [et, em, ha.1, ha.2, e]
      simp [h1]; omega
    · rw [if_neg hz, List.nil_append]
      have et : tailS (decDigits z.natAbs) = decDigits z.natAbs := by rw [e]; unfold tailS; split <;> simp_all
      have em : headM (decDigits z.natAbs) = false := by rw [e]; unfold headM; split <;> simp_all
      unfold okZ valZ
      rw [et, em, ha.1, ha.2, e]
      simp [h1]; omega
end Bn

/- Walks: linkworkref01.Text. -/
namespace Go.Proofs.YtpnnfbodphflpaaGreatDoor
open Go Go.RowKit Bn

/-- One digit of the list of digits. -/
theorem dgI_done0 {N k r : Nat} {s : List UInt8} (h : DgI N 0 k r s) (hr : ¬ 0 < r) : Lib.decDigits N = dg 0 ++ s := by
  have : r = 0 := by omega
  subst this
  exact h.done0
def dch (d : Nat) : UInt8 := UInt8.ofNat (48 + d)
theorem digit_cut {d : Nat} (h : d < 10) : (⟨#[48, 49, 50, 51, 52, 53, 54, 55, 56, 57]⟩ : ByteArray).extract d (d + 1) = ⟨[dch d].toArray⟩ := by
  have : ∀ d : Fin 10, (⟨#[48, 49, 50, 51, 52, 53, 54, 55, 56, 57]⟩ : ByteArray).extract d (d + 1) = ⟨[UInt8.ofNat (48 + d)].toArray⟩ := by decide
  exact this ⟨d, h⟩
theorem neg_r (w : World) (b : Bool) (A : Option Addr) (n c : Nat) (l : List Nat) (f : Bool) (wa : Wd w A n c l) (hn : n ≤ 1000000000) (hf : WD.s ⟨b, l⟩ = f) :
    Calls Tryz.prog 74 #[.agg #[.bool b, .slice A n c]] w (RetV w (.bool f)) := r_neg_e w b A n c l f wa (by omega) hf
/-- How the loop of the reference's Text stands. -/
def RTextI (M : Nat) (W0 wr : World) (m sv : Value) : Prop := ∃ A1 n1 c1 q s, m = .slice A1 n1 c1 ∧ sv = strV s ∧ n1 ≤ 1000000000 ∧ Kept (Wd wr A1 n1 c1 (digs q) ∧ Lib.decDigits M = dg q ++ s) ∧ Below W0.heap.size W0 wr
/-- How the loop over one group's digits stands. -/
def RGrpI (M q : Nat) (sv rv kv : Value) : Prop := ∃ k r s, sv = strV s ∧ rv = .int .u64 (r : Nat) ∧ kv = .int .i64 (k : Nat) ∧ k ≤ 9 ∧ r < 1000000000 ∧ Kept (DgI M q k r s)
set_option maxRecDepth 100000 in
set_option maxHeartbeats 4000000 in
/-- linkworkref01.Text -/
theorem r_text_C (w : World) (b : Bool) (A : Option Addr) (n c : Nat) (l : List Nat) (wa : Wd w A n c l) (hn : n ≤ 1000000000) :
    Calls Tryz.prog 26 #[.agg #[.bool b, .slice A n c]] w (RetV w (strV (Lib.itoa (WD.z ⟨b, l⟩)))) := by
  have HL := Lib.hid wa.2.1
  have hcm : Canon (WD.m ⟨b, l⟩) := WD.canon_m wa.1
  obtain ⟨M, hM⟩ : ∃ M, WD.m ⟨b, l⟩ = digs M := ⟨_, (digs_val hcm).symm⟩
  have hab : (WD.z ⟨b, l⟩).natAbs = M := by rw [z_nat, hM, val_digs]
  obtain ⟨T, hT⟩ : ∃ T, T = Lib.itoa (WD.z ⟨b, l⟩) := ⟨_, rfl⟩
  rw [itoa_abs, hab] at hT
  rw [itoa_abs, hab, ← hT]
  have HT := Lib.hid hT
  have HM := Lib.hid hM
  have HA := Lib.hid hab
  clear hT hM hab hcm
  have b0 : Below w.heap.size w (w.alloc (.cells #[.bool b, .slice A n c] 48)) := (Below.refl _ _).alloc (Nat.le_refl _) _
  have x0 : Blk (w.alloc (.cells #[.bool b, .slice A n c] 48)) w.heap.size 48 #[.bool b, .slice A n c] := blkAt _ _ _ rfl
  by_cases hM0 : M = 0
  · subst hM0
    have hz : (WD.z ⟨b, l⟩) < 0 → False := by have := HA.out; omega
    have hT0 : T = [48] := by rw [HT.out, if_neg (fun h => hz h)]; exact Lib.decDigits_one (by omega)
    subst hT0
    go_enter Tryz.func26, Tryz.ntmps26
    go_wp2_with (go_at_call 72; (with_reducible refine (r_mag_c _ b A n c l ?_ ?_).mono ?_); (exact wa.belw b0); (omega); rintro e w1 ⟨A1, n1, c1, rfl, h1, hb1⟩; rw [HM.out, digs_zero] at h1; obtain rfl : n1 = 0 := h1.2.1)
    go_ret
    exact ⟨rfl, b0.trans (hb1.mono b0.size)⟩
  · have hMp : 0 < M := Nat.pos_of_ne_zero hM0
    have HMP := Lib.hid hMp
    clear hM0 hMp
    go_enter Tryz.func26, Tryz.ntmps26
    go_wp2_with (go_at_call 72; (with_reducible refine (r_mag_c _ b A n c l ?_ ?_).mono ?_); (exact wa.belw b0); (omega); rintro e w1 ⟨A1, n1, c1, rfl, h1, hb1⟩; have hn1 : n1 ≤ 1000000000 := h1.m_len (by rw [← HL.out]; exact hn); rw [HM.out] at h1; have e1 : ((n1 : Int) == 0) = false := (by have h9 : n1 ≠ 0 := (fun e => by have h8 := h1.2.1; rw [e] at h8; exact absurd (digs_eq_nil.1 (List.eq_nil_of_length_eq_zero h8.symm)) (by have := HMP.out; omega)); simp; exact h9))
    clear e1
    go_loopw [3, 4] (fun mv sv wr => RTextI M w1 wr mv sv) (fun mv _ wr => valOf wr mv)
    case atStart => exact ⟨A1, n1, c1, M, [], rfl, rfl, hn1, ⟨h1, by rw [dg_pos HMP.out]; simp⟩, brefl _⟩
    case round =>
      obtain ⟨wo, hwo⟩ : ∃ x, x = wr := ⟨_, rfl⟩
      subst hwo
      obtain ⟨A3, n3, c3, q, s, rfl, rfl, hn3, hK, rr⟩ := hrel
      have hm5 : valOf wo (.slice A3 n3 c3) = q := by rw [hK.1.valOf, val_digs]
      have hnd : Lib.nDigits M ≤ 10 * 1000000000 := nDig_words' hn1 (by omega) (by have := h1.vlt (Nat.le_refl _); rw [val_digs] at this; exact this)
      have hln := dg_len hK.2
      have x1 : Blk w1 w.heap.size 48 #[.bool b, .slice A n c] := x0.below hb1 (by simp)
      have x2 := x1.below rr x1.lt
      have bw := ((b0.trans (hb1.mono b0.size)).trans (rr.mono (by have := hb1.size; have := b0.size; omega)))
      by_cases hq0 : q = 0
      · subst hq0
        have h0 : n3 = 0 := by have := hK.1.2.1; rw [digs_zero] at this; exact this
        subst h0
        have hps : Lib.decDigits M = s := by have := hK.2; rw [dg_zero] at this; exact this
        obtain ⟨cx0, cx1⟩ := x2.c2
        have HP := Lib.hid hps
        have HA2 := Lib.hid (show (WD.z ⟨b, l⟩) = sgn (WD.s ⟨b, l⟩) M by rw [WD.z_eq, HM.out, val_digs])
        have hsz : (⟨s.toArray⟩ : ByteArray).size ≤ 10000000000 := by show s.length ≤ _; omega
        clear hps x1 x2
        cases hs : WD.s ⟨b, l⟩
        · have HS := Lib.hid hs
          have HT2 := Lib.hid (show T = s by rw [HT.out, HP.out, HA2.out, hs, if_neg (by simp [sgn])]; rfl)
          clear hs
          go_wp2_with (go_at_call 74; (with_reducible refine (neg_r _ b A n c l false ?_ ?_ HS.out).mono ?_); (exact wa.belw bw); omega; rintro e w3 ⟨rfl, hb3⟩)
          go_ret
          exact ⟨by rw [HT2.out]; rfl, bw.trans (hb3.mono bw.size)⟩
        · have HS := Lib.hid hs
          have HT2 := Lib.hid (show T = 45 :: s by rw [HT.out, HP.out, HA2.out, hs, if_pos (by simp [sgn]; have := HMP.out; omega)]; rfl)
          clear hs
          go_wp2_with (go_at_call 74; (with_reducible refine (neg_r _ b A n c l true ?_ ?_ HS.out).mono ?_); (exact wa.belw bw); omega; rintro e w3 ⟨rfl, hb3⟩)
          go_ret
          refine ⟨?_, bw.trans (hb3.mono bw.size)⟩
          rw [HT2.out]
          exact congrArg (fun x => Ending.returned (.string x)) (cat_v [45] s)
      · have hqp : 0 < q := Nat.pos_of_ne_zero hq0
        have hn30 : n3 ≠ 0 := fun e => hq0 (digs_eq_nil.1 (List.eq_nil_of_length_eq_zero (by rw [← hK.1.2.1]; exact e)))
        have hn3p : 0 < n3 := by omega
        have HL3 := Lib.hid hK.1.2.1
        have HQP := Lib.hid hqp
        obtain ⟨lq, hlq⟩ : ∃ lq, digs q = lq := ⟨_, rfl⟩
        have HLQ := Lib.hid hlq
        have hvq : val lq = q := by rw [← hlq, val_digs]
        have HVQ := Lib.hid hvq
        have hw3 := hK.1
        rw [hlq] at hw3 HL3
        clear hq0 hqp hn30 hlq hvq x1
        go_wp2_with (at_make; refine wpList_make_words _ rfl _ _ rfl _ _ _ _ n3 rfl rfl (by omega) (by omega) (by omega) ?_)
        go_loopw [5, 7] (fun rv iv wx => ∃ (k r : Nat) (L : List Nat), k ≤ n3 ∧ iv = .int .i64 ((k : Int) - 1) ∧ rv = .int .u64 (r : Nat) ∧ r < 1000000000 ∧ L.length = n3 ∧ ShortI lq L 1000000000 k r ∧ Blk wx wo.heap.size 84 (cellsOf L) ∧ Below wo.heap.size wo wx) (fun _ iv _ => (intOf iv + 1).toNat)
        case atStart => exact ⟨n3, 0, List.replicate n3 0, Nat.le_refl _, rfl, rfl, by omega, by simp, ⟨by intro x hx; rw [List.eq_of_mem_replicate hx]; omega, by omega, by rw [HL3.out]; simp [val]⟩, Blk.new _ _ _, (Below.refl _ _).alloc (Nat.le_refl _) _⟩
        case round =>
          obtain ⟨k, r, L, hk, rfl, rfl, hr, hLM, hI, hB, hbel⟩ := hrel
          have HI := Lib.hid hI
          have HB := Lib.hid hB
          have HLM := Lib.hid hLM
          clear hI hB hLM
          by_cases hk0 : k = 0
          · subst hk0
            have h1' := HI.out.2.2
            simp only [List.drop_zero] at h1'
            have hq' : val lq / 1000000000 = val L := by
              rw [h1', Nat.mul_add_div (by omega), Nat.div_eq_of_lt HI.out.2.1, Nat.add_zero]
            have hm' : val lq % 1000000000 = r := by rw [h1']; rw [Nat.mul_add_mod]; exact Nat.mod_eq_of_lt HI.out.2.1
            rw [HVQ.out] at hq' hm'
            have hst := DgI.start hK.2
            rw [hm', hq'] at hst
            obtain ⟨q', hqq⟩ : ∃ q', val L = q' := ⟨_, rfl⟩
            rw [hqq] at hst hq'
            have HQ := Lib.hid (And.intro hq' hm')
            have HQQ := Lib.hid hqq
            have HST := Lib.hid hst
            clear hq' hm' h1' hqq hst
            go_wp2_with (go_at_call 73; (with_reducible refine (r_trim_c _ _ n3 n3 L ?_ ?_).mono ?_); (exact HB.out.wdN HI.out.1 HLM.out); omega; rintro e w4 ⟨A4, n4, c4, rfl, h4, hb4⟩; rw [HQQ.out] at h4)
            have hn4 : n4 ≤ 1000000000 := by
              rw [h4.2.1]
              exact Nat.le_trans (length_digs_le (Nat.lt_of_le_of_lt (by rw [← HQ.out.1]; exact Nat.div_le_self _ _) (by have := hK.1.vlt (Nat.le_refl _); rw [val_digs] at this; exact this))) hn3
            have H4 := Lib.hid h4
            have HLT := Lib.hid (show q' < q by rw [← HQ.out.1]; exact Nat.div_lt_self HQP.out (by omega))
            have hb5 : Below wo.heap.size wo w4 := hbel.trans (hb4.mono hbel.size)
            clear h4
            go_loop [4, 5, 8] (fun sv rv kv => RGrpI M q' sv rv kv) (fun _ _ kv => 9 - (intOf kv).toNat)
            case atStart => exact ⟨0, r, s, rfl, rfl, rfl, by omega, hr, HST.out⟩
            case round =>
              obtain ⟨j, r1, s1, rfl, rfl, rfl, hj, hr1, hG⟩ := hrel
              have hl1 := hG.len
              have hsz : (⟨s1.toArray⟩ : ByteArray).size ≤ 10000000000 := by show s1.length ≤ _; omega
              by_cases hj9 : j = 9
              · subst hj9
                go_wp2
                go_roundw
                case rel => exact ⟨A4, n4, c4, q', s1, rfl, rfl, hn4, ⟨H4.out, hG.done9⟩, rr.trans (hb5.mono rr.size)⟩
                case measure => rw [H4.out.valOf, hm5, val_digs]; exact HLT.out
              · have hj8 : j < 9 := by omega
                obtain ⟨d, hd⟩ : ∃ d, r1 % 10 = d := ⟨_, rfl⟩
                obtain ⟨r2, hr2⟩ : ∃ r2, r1 / 10 = r2 := ⟨_, rfl⟩
                have hd10 : d < 10 := by omega
                have e1 : (r1 : Int) % 10 = (d : Int) := by omega
                have e2 : (r1 : Int) / 10 = (r2 : Int) := by omega
                have e4 : (⟨#[48, 49, 50, 51, 52, 53, 54, 55, 56, 57]⟩ : ByteArray).extract d (d + 1) = ⟨[dch d].toArray⟩ := digit_cut hd10
                have HD := Lib.hid (And.intro hd hr2)
                clear hd hr2 hj9
                by_cases h0 : 0 < r1
                · have HG := Lib.hid (hG.step hj8 (.inl h0))
                  rw [HD.out.1, HD.out.2] at HG
                  clear hG
                  go_wp2
                  go_round
                  case rel => exact ⟨j + 1, r2, _, rfl, rfl, by go_num, by omega, by have := HD.out.2; omega, HG.out⟩
                  case measure => simp [intOf]; omega
                · by_cases h1 : q' = 0
                  · subst h1
                    have hn40 : n4 = 0 := by have := H4.out.2.1; rw [digs_zero] at this; exact this
                    subst hn40
                    go_wp2
                    go_roundw
                    case rel => exact ⟨A4, 0, c4, 0, s1, rfl, rfl, by omega, ⟨H4.out, dgI_done0 hG h0⟩, rr.trans (hb5.mono rr.size)⟩
                    case measure => rw [H4.out.valOf, hm5, val_digs]; exact HLT.out
                  · have hn4p : 0 < n4 := Nat.pos_of_ne_zero fun e => h1 (digs_eq_nil.1 (List.eq_nil_of_length_eq_zero (by rw [← H4.out.2.1]; exact e)))
                    have HG := Lib.hid (hG.step hj8 (.inr (Nat.pos_of_ne_zero h1)))
                    rw [HD.out.1, HD.out.2] at HG
                    clear hG h1
                    go_wp2
                    go_round
                    case rel => exact ⟨j + 1, r2, _, rfl, rfl, by go_num, by omega, by have := HD.out.2; omega, HG.out⟩
                    case measure => simp [intOf]; omega
          · obtain ⟨g, o, rfl, hgl, hc1⟩ := (hw3.keep ((Kp.refl wo).below hbel)).at2 hn3p
            have hcx := hc1 (k - 1) (by omega)
            obtain ⟨x, hx⟩ : ∃ x, wd lq (k - 1) = x := ⟨_, rfl⟩
            have hx1 : x < 4294967296 := by rw [← hx]; exact hw3.lt _
            rw [hx] at hcx
            have HX := Lib.hid hx
            have hck := HB.out.cell (k - 1)
            rw [cellsOf_get (by rw [HLM.out]; omega)] at hck
            have hfk := HB.out.frozen (k - 1)
            have hkp : 0 < k := by omega
            obtain ⟨sx, hs⟩ : ∃ s : Nat, s = r * 4294967296 + x := ⟨_, rfl⟩
            have e1 : bits .or .u64 ((r : Int) * 4294967296) (x : Int) = (sx : Int) := by rw [hs]; exact join_word (by omega) hx1
            have HS := Lib.hid hs
            have hsb : sx / 1000000000 < 4294967296 := by rw [hs]; omega
            obtain ⟨t, ht⟩ : ∃ t : Nat, sx / 1000000000 = t := ⟨_, rfl⟩
            obtain ⟨r2, hr2⟩ : ∃ r2, sx % 1000000000 = r2 := ⟨_, rfl⟩
            rw [ht] at hsb
            have e2 : (sx : Int) / 1000000000 = (t : Int) := by omega
            have e3 : (sx : Int) % 1000000000 = (r2 : Int) := by omega
            have hsx : sx < 18446744073709551616 := by omega
            have hr3 : r2 < 1000000000 := by omega
            have HT := Lib.hid (And.intro ht hr2)
            clear hx hc1 hk0 hs ht hr2
            go_wp2
            clear e1 e2 e3
            go_roundw
            case rel =>
              refine ⟨k - 1, r2, L.set (k - 1) t, by omega, by go_num, by congr 1; have := HT.out.2; omega, hr3, by rw [List.length_set]; exact HLM.out, ⟨wds_set HI.out.1 _ hsb, hr3, ?_⟩, ?_, hbel.setCell (Nat.le_refl _) _⟩
              · rw [val_drop lq (by rw [← HL3.out]; omega), val_drop (L.set (k - 1) t) (by rw [List.length_set, HLM.out]; omega), drop_set_succ, show k - 1 + 1 = k by omega, HX.out, wd_set, if_pos ⟨rfl, by rw [HLM.out]; omega⟩, ← HT.out.1, ← HT.out.2, HS.out]
                exact short_step HI.out.2.2
              · exact HB.out.setW (k - 1) _ _ (by omega)
            case measure => simp [intOf]; omega
end Go.Proofs.YtpnnfbodphflpaaGreatDoor

/- Texts read as numbers: what the library's functions give on digits. Plain. -/
namespace Bn
open Go.Lib
theorem digitVal_dg {c : UInt8} (h : isDg c = true) : digitVal c = some (dval c) := by
  unfold isDg at h
  rw [Bool.and_eq_true, decide_eq_true_eq, decide_eq_true_eq] at h
  unfold digitVal dval
  rw [if_pos h]
theorem decFrom_dg : ∀ {l : List UInt8}, l.all isDg = true → ∀ acc, decFrom acc l = some (l.foldl (fun a c => a * 10 + dval c) acc) := by
  intro l
  induction l with
  | nil => intro _ acc; rfl
  | cons x r ih =>
    intro h acc
    rw [List.all_cons, Bool.and_eq_true] at h
    rw [decFrom, digitVal_dg h.1, List.foldl_cons]
    exact ih h.2 _
theorem atoi_dec {l : List UInt8} (h : l.all isDg = true) (h0 : l ≠ []) : atoi l = some (decVal l : Int) := by
  cases l with
  | nil => exact absurd rfl h0
  | cons x r =>
    have hx : isDg x = true := by rw [List.all_cons, Bool.and_eq_true] at h; exact h.1
    have h1 : (x == 45) = false := by
      apply Bool.eq_false_iff.2
      intro e
      rw [beq_iff_eq] at e
      subst e
      exact absurd hx (by decide)
    have h2 : (x == 43) = false := by
      apply Bool.eq_false_iff.2
      intro e
      rw [beq_iff_eq] at e
      subst e
      exact absurd hx (by decide)
    unfold atoi
    dsimp only
    rw [h1, h2]
    simp only [Bool.false_eq_true, if_false]
    unfold decNat
    rw [if_neg (by simp), decFrom_dg h]
    rfl
/-- The digits. -/
def digs10 : List UInt8 := [48, 49, 50, 51, 52, 53, 54, 55, 56, 57]
theorem contains_dg (c : UInt8) : digs10.contains c = isDg c := by
  have h : ∀ v : Fin 256, digs10.contains (UInt8.ofNat v) = isDg (UInt8.ofNat v) := by decide +kernel
  have := h ⟨c.toNat, c.toNat_lt⟩
  simpa using this
theorem dropWhile_nil {p : UInt8 → Bool} : ∀ {l : List UInt8}, l.dropWhile p = [] ↔ l.all p = true := by
  intro l
  induction l with
  | nil => simp
  | cons x r ih =>
    by_cases h : p x = true
    · rw [List.dropWhile_cons_of_pos h, ih, List.all_cons, h]; simp
    · rw [List.dropWhile_cons_of_neg h]; simp [h]
theorem dropWhile_head {p : UInt8 → Bool} : ∀ {l : List UInt8} {x : UInt8} {r : List UInt8}, l.dropWhile p = x :: r → p x = false := by
  intro l
  induction l with
  | nil => intro x r h; simp at h
  | cons y s ih =>
    intro x r h
    by_cases hy : p y = true
    · rw [List.dropWhile_cons_of_pos hy] at h; exact ih h
    · rw [List.dropWhile_cons_of_neg hy] at h
      injection h with h1 h2
      subst h1
      simpa using hy
theorem trim_dg {l : List UInt8} : trimS l digs10 = [] ↔ l.all isDg = true := by
  have hp : (fun b => digs10.contains b) = isDg := funext contains_dg
  unfold trimS trimLeftS trimRightS
  rw [hp]
  rw [dropWhile_nil, List.all_reverse]
  constructor
  · intro h
    cases hd : l.reverse.dropWhile isDg with
    | nil => have := dropWhile_nil.1 hd; rw [List.all_reverse] at this; exact this
    | cons x r =>
      rw [hd, List.all_cons, Bool.and_eq_true] at h
      rw [dropWhile_head hd] at h
      exact absurd h.1 (by simp)
  · intro h
    rw [dropWhile_nil.2 (by rw [List.all_reverse]; exact h)]
    rfl
theorem hasPrefix_m (l : List UInt8) : hasPrefix l [45] = headM l := by
  unfold hasPrefix headM
  cases l with
  | nil => rfl
  | cons x r =>
    by_cases h : x = 45
    · subst h; rfl
    · have e : (45 == x) = false := by simp; exact fun e => h e.symm
      simp only [List.isPrefixOf, e, Bool.false_and]
      split
      · rename_i h1; injection h1 with h2; exact absurd h2 h
      · rfl
theorem trimPrefix_m (l : List UInt8) : trimPrefix l [45] = tailS l := by
  unfold trimPrefix
  rw [hasPrefix_m]
  unfold headM tailS
  split
  · rename_i r
    rfl
  · rfl
theorem tailS_len (l : List UInt8) : (tailS l).length ≤ l.length := by
  unfold tailS; split <;> simp
theorem len_ten (k : Nat) : 10 ^ k ≤ 4294967296 ^ k := Nat.pow_le_pow_left (by omega) k
theorem decVal_words {l : List UInt8} (h : l.all isDg = true) : decVal l < 4294967296 ^ l.length := Nat.lt_of_lt_of_le (decVal_lt h) (len_ten _)
theorem all_take {l : List UInt8} {p : UInt8 → Bool} (h : l.all p = true) (k : Nat) : (l.take k).all p = true := by
  rw [List.all_eq_true] at h ⊢
  exact fun x hx => h x (List.mem_of_mem_take hx)
theorem all_drop {l : List UInt8} {p : UInt8 → Bool} (h : l.all p = true) (k : Nat) : (l.drop k).all p = true := by
  rw [List.all_eq_true] at h ⊢
  exact fun x hx => h x (List.mem_of_mem_drop hx)
/-- How the reading in groups stands: what was read, what is left. -/
def GrpI (t pre rest : List UInt8) : Prop := t = pre ++ rest ∧ (pre = [] ∨ rest.length % 9 = 0)
theorem GrpI.step {t pre rest : List UInt8} {n : Nat} (h : GrpI t pre rest) (h0 : 0 < rest.length) (hn : (rest.length - 1) % 9 + 1 = n) :
    n ≤ rest.length ∧ n ≤ 9 ∧ 0 < n ∧ GrpI t (pre ++ rest.take n) (rest.drop n) ∧ decVal (pre ++ rest.take n) = decVal pre * 1000000000 + decVal (rest.take n) := by
  have h1 : n ≤ rest.length := by have := Nat.mod_le (rest.length - 1) 9; omega
  refine ⟨h1, by have := Nat.mod_lt (rest.length - 1) (show 0 < 9 by omega); omega, by omega, ⟨?_, ?_⟩, ?_⟩
  · rw [List.append_assoc, List.take_append_drop]; exact h.1
  · right; rw [List.length_drop]; omega
  · rw [decVal_app, List.length_take, Nat.min_eq_left h1]
    rcases h.2 with e | e
    · subst e; simp [decVal]
    · have : n = 9 := by omega
      subst this; rfl
theorem GrpI.start (t : List UInt8) : GrpI t [] t := ⟨rfl, .inl rfl⟩
theorem GrpI.fin {t pre : List UInt8} (h : GrpI t pre []) : pre = t := by have := h.1; rw [List.append_nil] at this; exact this.symm
/-- What is wrong with a text, what is right. -/
theorem okZ_parts {l : List UInt8} (h : okZ l = true) : tailS l ≠ [] ∧ (tailS l).all isDg = true ∧ ¬ ((tailS l).head? = some 48 ∧ (1 < (tailS l).length ∨ headM l = true)) := by
  unfold okZ at h
  simp at h
  refine ⟨h.1.1, by simpa using h.1.2, fun ⟨a, b⟩ => ?_⟩
  rcases h.2 with e | e
  · exact e a
  · rcases b with b | b
    · omega
    · rw [b] at e; exact absurd e.2 (by simp)
theorem okZ_not {l : List UInt8} (h : okZ l = false) : tailS l = [] ∨ (tailS l ≠ [] ∧ (tailS l).all isDg = false) ∨ (tailS l ≠ [] ∧ (tailS l).all isDg = true ∧ (tailS l).head? = some 48 ∧ (1 < (tailS l).length ∨ headM l = true)) := by
  by_cases h0 : tailS l = []
  · exact .inl h0
  · right
    cases h1 : (tailS l).all isDg
    · exact .inl ⟨h0, rfl⟩
    · refine .inr ⟨h0, rfl, ?_⟩
      unfold okZ at h
      rw [h1] at h
      simp [h0] at h
      refine ⟨h.1, ?_⟩
      by_cases h2 : 1 < (tailS l).length
      · exact .inl h2
      · exact .inr (h.2 (by omega))
end Bn

/- Walks: integer.Parse. -/
namespace Go.Proofs.YtpnnfbodphflpaaGreatDoor
open Go Go.RowKit Bn

theorem toList_v (l : List UInt8) : (⟨l.toArray⟩ : ByteArray).toList = l := by rw [Lib.toList_data]
theorem size_v (l : List UInt8) : (⟨l.toArray⟩ : ByteArray).size = l.length := rfl
theorem ext_v (l : List UInt8) (a b : Nat) : (⟨l.toArray⟩ : ByteArray).extract a b = ⟨((l.drop a).take (b - a)).toArray⟩ := by
  apply ByteArray.ext
  rw [ByteArray.data_extract]
  simp
theorem prefix_v (w : World) (l : List UInt8) (m : Bool) (hm : headM l = m) : Calls Tryz.prog 55 #[strV l, .string ⟨#[45]⟩] w (RetV w (.bool m)) := by
  subst hm
  refine (Tryz.strings_HasPrefix ⟨l.toArray⟩ ⟨#[45]⟩ w).mono fun e w' ⟨he, hw⟩ => ⟨?_, hw ▸ brefl _⟩
  rw [he]
  exact congrArg (fun x => Ending.returned (.bool x)) (hasPrefix_m l)
theorem tprefix_v (w : World) (l t : List UInt8) (ht : tailS l = t) : Calls Tryz.prog 56 #[strV l, .string ⟨#[45]⟩] w (RetV w (strV t)) := by
  subst ht
  refine (Tryz.strings_TrimPrefix ⟨l.toArray⟩ ⟨#[45]⟩ w).mono fun e w' ⟨he, hw⟩ => ⟨?_, hw ▸ brefl _⟩
  rw [he]
  exact congrArg (fun x : List UInt8 => Ending.returned (strV x)) (trimPrefix_m l)
theorem trim_v (w : World) (t x : List UInt8) (hn : t.length ≤ 1000000) (hx : Lib.trimS t digs10 = x) : Calls Tryz.prog 57 #[strV t, .string ⟨#[48, 49, 50, 51, 52, 53, 54, 55, 56, 57]⟩] w (RetV w (strV x)) := by
  subst hx
  exact Any.strings_Trim_laid Tryz.lays160 (by kernel_rfl) ⟨t.toArray⟩ ⟨#[48, 49, 50, 51, 52, 53, 54, 55, 56, 57]⟩ w (by show t.length ≤ _; omega) (by decide) (ascii_of_all (by decide))
theorem atoi_v (w : World) (t : List UInt8) (x : Nat) (hn : t.length ≤ 9) (h0 : t ≠ []) (ha : t.all isDg = true) (hx : decVal t = x) : Calls Tryz.prog 58 #[strV t] w (RetV w (.tuple #[.int .i64 (x : Nat), .nilIface])) := by
  subst hx
  refine (Tryz.strconv_Atoi ⟨t.toArray⟩ (decVal t : Nat) (by show t.length ≤ 18; omega) (atoi_dec ha h0) w).mono fun e w' ⟨he, t, hw⟩ => ⟨he, ?_⟩
  rw [hw]
  exact ⟨rfl, rfl, rfl, by rw [Lib.bytesWorld_size]; omega, fun j hj => Lib.bytesWorld_at_old _ _ _ j hj⟩
set_option maxRecDepth 100000 in
set_option maxHeartbeats 2000000 in
/-- integer.Parse, the text being too long -/
theorem i_parse_big (w : World) (l : List UInt8) (hl : 65536 < l.length) :
    Calls Tryz.prog 23 #[strV l] w (RetIe w (.iface 71 (.int .i64 4)) 0 0) := by
  have hsz := size_v l
  go_enter Tryz.func23, Tryz.ntmps23
  go_wp2
  refine bodyPost_ret (v := .tuple #[.agg #[.bool false, .slice none 0 0], .iface 71 (.int .i64 4)]) (by simp [results, Tryz.results23, go_sem, *] <;> first | rfl | exact ⟨rfl, rfl⟩) rfl ?_
  exact ⟨_, _, _, _, rfl, IV.zero _ _, ((brefl w).alloc (Nat.le_refl _) _)⟩
set_option maxRecDepth 100000 in
set_option maxHeartbeats 2000000 in
/-- integer.Parse, the text being none of an integer -/
theorem i_parse_bad (w : World) (l : List UInt8) (hl : l.length ≤ 65536) (hb : okZ l = false) :
    Calls Tryz.prog 23 #[strV l] w (RetIe w (.iface 71 (.int .i64 2)) 0 0) := by
  have hsz := size_v l
  have htl := tailS_len l
  obtain ⟨m, hm⟩ : ∃ m, headM l = m := ⟨_, rfl⟩
  obtain ⟨t, ht⟩ : ∃ t, tailS l = t := ⟨_, rfl⟩
  have hn := okZ_not hb
  rw [hm, ht] at hn
  rw [ht] at htl
  have HM := Lib.hid (And.intro hm ht)
  have b0 : Below w.heap.size w (w.alloc (.cells #[.bool false, .slice none 0 0] 48)) := (brefl w).alloc (Nat.le_refl _) _
  have x0 : Blk (w.alloc (.cells #[.bool false, .slice none 0 0] 48)) w.heap.size 48 #[.bool false, .slice none 0 0] := blkAt _ _ _ rfl
  clear hb hm ht
  rcases hn with h | ⟨h0, h1⟩ | ⟨h0, h1, h2, h3⟩
  · subst h
    have htl0 := toList_v []
    go_enter Tryz.func23, Tryz.ntmps23
    go_wp2_with (first
      | (go_at_call 55; (with_reducible refine (prefix_v _ l _ HM.out.1).mono ?_); rintro e w1 ⟨rfl, hb1⟩; have b1 := b0.trans (hb1.mono b0.size); have x1 := x0.below hb1 x0.lt)
      | (go_at_call 56; (with_reducible refine (tprefix_v _ l _ HM.out.2).mono ?_); rintro e w2 ⟨rfl, hb2⟩; have b2 := b1.trans (hb2.mono b1.size); have x2 := x1.below hb2 x1.lt; obtain ⟨c0, c1⟩ := x2.c2; obtain ⟨f0, f1⟩ := x2.f2))
    refine bodyPost_ret (v := .tuple #[.agg #[.bool false, .slice none 0 0], .iface 71 (.int .i64 2)]) (by simp [results, Tryz.results23, go_sem, *] <;> first | rfl | exact ⟨rfl, rfl⟩) rfl ?_
    exact ⟨_, _, _, _, rfl, IV.zero _ _, (b2.setCell (by dsimp only; omega) _).setCell (by dsimp only; omega) _⟩
  · obtain ⟨c, r, rfl⟩ := List.exists_cons_of_ne_nil h0
    have htl0 := toList_v (c :: r)
    obtain ⟨x, hx⟩ : ∃ x, Lib.trimS (c :: r) digs10 = x := ⟨_, rfl⟩
    have hx0 : x ≠ [] := fun e => by rw [e] at hx; have := trim_dg.1 hx; rw [h1] at this; exact absurd this (by simp)
    obtain ⟨y, ys, rfl⟩ := List.exists_cons_of_ne_nil hx0
    have htl1 := toList_v (y :: ys)
    have HX := Lib.hid hx
    have HTL := Lib.hid (show (c :: r).length ≤ 1000000 by omega)
    clear hx hx0 h0 h1
    go_enter Tryz.func23, Tryz.ntmps23
    go_wp2_with (first
      | (go_at_call 55; (with_reducible refine (prefix_v _ l _ HM.out.1).mono ?_); rintro e w1 ⟨rfl, hb1⟩; have b1 := b0.trans (hb1.mono b0.size); have x1 := x0.below hb1 x0.lt)
      | (go_at_call 56; (with_reducible refine (tprefix_v _ l _ HM.out.2).mono ?_); rintro e w2 ⟨rfl, hb2⟩; have b2 := b1.trans (hb2.mono b1.size); have x2 := x1.below hb2 x1.lt)
      | (go_at_call 57; (with_reducible refine (trim_v _ _ (y :: ys) ?_ HX.out).mono ?_); (exact HTL.out); rintro e w3 ⟨rfl, hb3⟩; have b3 := b2.trans (hb3.mono b2.size); have x3 := x2.below hb3 x2.lt; obtain ⟨c0, c1⟩ := x3.c2; obtain ⟨f0, f1⟩ := x3.f2))
    refine bodyPost_ret (v := .tuple #[.agg #[.bool false, .slice none 0 0], .iface 71 (.int .i64 2)]) (by simp [results, Tryz.results23, go_sem, *] <;> first | rfl | exact ⟨rfl, rfl⟩) rfl ?_
    exact ⟨_, _, _, _, rfl, IV.zero _ _, (b3.setCell (by dsimp only; omega) _).setCell (by dsimp only; omega) _⟩
  · obtain ⟨c, r, rfl⟩ := List.exists_cons_of_ne_nil h0
    have hc : c = 48 := by simpa using h2
    subst hc
    have htl0 := toList_v (48 :: r)
    have htl1 := toList_v []
    have hsz0 := size_v (48 :: r)
    have HX := Lib.hid (trim_dg.2 h1)
    have HTL := Lib.hid (show (48 :: r : List UInt8).length ≤ 1000000 by omega)
    clear h0 h1 h2
    by_cases hr : r = []
    · subst hr
      have hm : m = true := by
        rcases h3 with h | h
        · exact absurd h (by simp)
        · exact h
      subst hm
      clear h3
      go_enter Tryz.func23, Tryz.ntmps23
      go_wp2_with (first
        | (go_at_call 55; (with_reducible refine (prefix_v _ l _ HM.out.1).mono ?_); rintro e w1 ⟨rfl, hb1⟩; have b1 := b0.trans (hb1.mono b0.size); have x1 := x0.below hb1 x0.lt)
        | (go_at_call 56; (with_reducible refine (tprefix_v _ l _ HM.out.2).mono ?_); rintro e w2 ⟨rfl, hb2⟩; have b2 := b1.trans (hb2.mono b1.size); have x2 := x1.below hb2 x1.lt)
        | (go_at_call 57; (with_reducible refine (trim_v _ _ [] ?_ HX.out).mono ?_); (exact HTL.out); rintro e w3 ⟨rfl, hb3⟩; have b3 := b2.trans (hb3.mono b2.size); have x3 := x2.below hb3 x2.lt; obtain ⟨c0, c1⟩ := x3.c2; obtain ⟨f0, f1⟩ := x3.f2))
      refine bodyPost_ret (v := .tuple #[.agg #[.bool false, .slice none 0 0], .iface 71 (.int .i64 2)]) (by simp [results, Tryz.results23, go_sem, *] <;> first | rfl | exact ⟨rfl, rfl⟩) rfl ?_
      exact ⟨_, _, _, _, rfl, IV.zero _ _, (b3.setCell (by dsimp only; omega) _).setCell (by dsimp only; omega) _⟩
    · obtain ⟨d, rs, rfl⟩ := List.exists_cons_of_ne_nil hr
      have hlen : 1 < (48 :: d :: rs : List UInt8).length := by simp
      clear h3 hr
      go_enter Tryz.func23, Tryz.ntmps23
      go_wp2_with (first
        | (go_at_call 55; (with_reducible refine (prefix_v _ l _ HM.out.1).mono ?_); rintro e w1 ⟨rfl, hb1⟩; have b1 := b0.trans (hb1.mono b0.size); have x1 := x0.below hb1 x0.lt)
        | (go_at_call 56; (with_reducible refine (tprefix_v _ l _ HM.out.2).mono ?_); rintro e w2 ⟨rfl, hb2⟩; have b2 := b1.trans (hb2.mono b1.size); have x2 := x1.below hb2 x1.lt)
        | (go_at_call 57; (with_reducible refine (trim_v _ _ [] ?_ HX.out).mono ?_); (exact HTL.out); rintro e w3 ⟨rfl, hb3⟩; have b3 := b2.trans (hb3.mono b2.size); have x3 := x2.below hb3 x2.lt; obtain ⟨c0, c1⟩ := x3.c2; obtain ⟨f0, f1⟩ := x3.f2))
      refine bodyPost_ret (v := .tuple #[.agg #[.bool false, .slice none 0 0], .iface 71 (.int .i64 2)]) (by simp [results, Tryz.results23, go_sem, *] <;> first | rfl | exact ⟨rfl, rfl⟩) rfl ?_
      exact ⟨_, _, _, _, rfl, IV.zero _ _, (b3.setCell (by dsimp only; omega) _).setCell (by dsimp only; omega) _⟩
/-- How the reading in groups stands. -/
def ParseI (T : List UInt8) (W0 wr : World) (tv mv : Value) : Prop := ∃ pre rest A1 n1 c1, tv = strV rest ∧ mv = .slice A1 n1 c1 ∧ n1 ≤ 65536 ∧ rest.length ≤ 65536 ∧ Kept (GrpI T pre rest ∧ pre.all isDg = true ∧ rest.all isDg = true ∧ Wd wr A1 n1 c1 (digs (decVal pre))) ∧ Below W0.heap.size W0 wr
def strLen : Value → Nat
  | .string s => s.size
  | _ => 0
theorem plus_k (w : World) (A : Option Addr) (n c x : Nat) (wa : Wd w A n c (digs x)) (hn : n ≤ 1099511627776) (A' : Option Addr) (n' c' y : Nat) (wb : Wd w A' n' c' (digs y)) (hn' : n' ≤ 1099511627776) :
    Calls Tryz.prog 59 #[.slice A n c, .slice A' n' c'] w (RetL w (digs (x + y))) := by
  have := plus_c w A n c (digs x) wa hn A' n' c' (digs y) wb hn'
  rw [val_digs, val_digs] at this
  exact this
theorem times_n (w : World) (A : Option Addr) (n c x : Nat) (wa : Wd w A n c (digs x)) (hn : n ≤ 1099511627776) (g : Nat) (z : Int) (y : Nat) (hz : z = y) (hy : y < 4294967296) (hb : Blk w g 84 #[.int .u32 z]) :
    Calls Tryz.prog 60 #[.slice A n c, .slice (some ⟨g, 0, none⟩) 1 1] w (RetL w (digs (x * y))) := by
  subst hz
  have h1 : Wd w (some ⟨g, 0, none⟩) 1 1 [y] := Blk.wdN (l := [y]) hb (by intro x hx; simp at hx; omega) rfl
  have := times_c w A n c (digs x) wa hn (some ⟨g, 0, none⟩) 1 1 [y] h1 (by omega)
  rw [val_digs, show val [y] = y by simp [val]] at this
  exact this
theorem trim_n (w : World) (g : Nat) (z : Int) (y : Nat) (hz : z = y) (hy : y < 4294967296) (hb : Blk w g 84 #[.int .u32 z]) :
    Calls Tryz.prog 61 #[.slice (some ⟨g, 0, none⟩) 1 1] w (RetL w (digs y)) := by
  subst hz
  have h1 : Wd w (some ⟨g, 0, none⟩) 1 1 [y] := Blk.wdN (l := [y]) hb (by intro x hx; simp at hx; omega) rfl
  have := trim_c w (some ⟨g, 0, none⟩) 1 1 [y] h1 (by omega)
  rw [show val [y] = y by simp [val]] at this
  exact this
set_option maxRecDepth 100000 in
set_option maxHeartbeats 4000000 in
/-- integer.Parse, the text of an integer -/
theorem i_parse_ok (w : World) (l : List UInt8) (hl : l.length ≤ 65536) (hb : okZ l = true) :
    Calls Tryz.prog 23 #[strV l] w (RetIe w .nilIface (valZ l) l.length) := by
  have hsz := size_v l
  have htl2 := tailS_len l
  have htl := Nat.le_trans htl2 hl
  obtain ⟨m, hm⟩ : ∃ m, headM l = m := ⟨_, rfl⟩
  obtain ⟨t, ht⟩ : ∃ t, tailS l = t := ⟨_, rfl⟩
  obtain ⟨h0, h1, h2⟩ := okZ_parts hb
  have hv : valZ l = if m then -(decVal t : Int) else decVal t := by unfold valZ; rw [hm, ht]
  rw [hm, ht] at h2
  rw [ht] at htl htl2 h0 h1
  have HM := Lib.hid (And.intro hm ht)
  have HV := Lib.hid hv
  have b0 : Below w.heap.size w (w.alloc (.cells #[.bool false, .slice none 0 0] 48)) := (brefl w).alloc (Nat.le_refl _) _
  have x0 : Blk (w.alloc (.cells #[.bool false, .slice none 0 0] 48)) w.heap.size 48 #[.bool false, .slice none 0 0] := blkAt _ _ _ rfl
  clear hb hm ht hv
  obtain ⟨c, r, rfl⟩ := List.exists_cons_of_ne_nil h0
  have htl0 := toList_v (c :: r)
  have htl1 := toList_v []
  have hsz0 := size_v (c :: r)
  have HX := Lib.hid (trim_dg.2 h1)
  have HTL := Lib.hid (show (c :: r : List UInt8).length ≤ 1000000 by omega)
  have HALL := Lib.hid h1
  have hcase : c ≠ 48 ∨ (c = 48 ∧ r = [] ∧ m = false) := by
    by_cases hc : c = 48
    · refine .inr ⟨hc, ?_, ?_⟩
      · cases r with
        | nil => rfl
        | cons d rs => exact absurd ⟨by rw [hc]; rfl, .inl (by simp)⟩ h2
      · cases m with
        | false => rfl
        | true => exact absurd ⟨by rw [hc]; rfl, .inr rfl⟩ h2
    · exact .inl hc
  have HLL := Lib.hid htl
  have HSZ := Lib.hid (show (valZ l).natAbs < 4294967296 ^ l.length by
    rw [HV.out]
    refine Nat.lt_of_lt_of_le (show (if m = true then -(decVal (c :: r) : Int) else (decVal (c :: r) : Int)).natAbs < 4294967296 ^ (c :: r).length by
      have := decVal_words h1
      split <;> omega) (Nat.pow_le_pow_right (by omega) htl2))
  clear h0 h1 h2
  rcases hcase with hc | ⟨rfl, rfl, rfl⟩
  · have hcn : c.toNat ≠ 48 := fun e => hc (UInt8.toNat.inj e)
    have hcz : ¬ (c.toNat : Int) = 48 := by omega
    have hcb : ((c.toNat : Int) == 48) = false := by simp; omega
    have hget : ∀ h, (⟨(c :: r).toArray⟩ : ByteArray)[0]'h = c := fun h => rfl
    go_enter Tryz.func23, Tryz.ntmps23
    go_wp2_with (first
      | (go_at_call 55; (with_reducible refine (prefix_v _ l _ HM.out.1).mono ?_); rintro e w1 ⟨rfl, hb1⟩; have b1 := b0.trans (hb1.mono b0.size); have x1 := x0.below hb1 x0.lt)
      | (go_at_call 56; (with_reducible refine (tprefix_v _ l _ HM.out.2).mono ?_); rintro e w2 ⟨rfl, hb2⟩; have b2 := b1.trans (hb2.mono b1.size); have x2 := x1.below hb2 x1.lt)
      | (go_at_call 57; (with_reducible refine (trim_v _ _ [] ?_ HX.out).mono ?_); (exact HTL.out); rintro e w3 ⟨rfl, hb3⟩; have b3 := b2.trans (hb3.mono b2.size); have x3 := x2.below hb3 x2.lt))
    clear hget hcz hcb hcn hc htl0 htl1 hsz0
    go_loopw [5, 6] (fun tv mv wr => ParseI (c :: r) w3 wr tv mv) (fun tv _ _ => strLen tv)
    case atStart => exact ⟨[], (c :: r), none, 0, 0, rfl, rfl, by omega, HLL.out, ⟨GrpI.start _, rfl, HALL.out, by rw [show decVal [] = 0 from rfl, digs_zero]; exact Wd.nil_ _⟩, brefl _⟩
    case round =>
      obtain ⟨pre, rest, A1, n1, c1, rfl, rfl, hn1, hrl, hK, rr⟩ := hrel
      have bw := b3.trans (rr.mono b3.size)
      have x4 := x3.below rr x3.lt
      by_cases hr0 : rest = []
      · subst hr0
        have hpre := hK.1.fin
        subst hpre
        have hsz1 := size_v []
        go_wp2_with (go_at_call 62; (with_reducible refine (whole_c _ m A1 n1 c1 (digs (decVal (c :: r))) ?_ ?_).mono ?_); (exact hK.2.2.2); omega; rintro e w5 ⟨A5, n5, c5, rfl, h5, hb5⟩; have b5 := bw.trans (hb5.mono bw.size); have x5 := x4.below hb5 x4.lt; obtain ⟨d0, d1⟩ := x5.c2; obtain ⟨f0, f1⟩ := x5.f2)
        rw [val_digs] at h5
        have hz : sgn m (decVal (c :: r)) = valZ l := by rw [HV.out]; rfl
        rw [hz] at h5
        refine bodyPost_ret (v := .tuple #[.agg #[.bool _, .slice A5 n5 c5], .nilIface]) (by simp [results, Tryz.results23, go_sem, *] <;> first | rfl | exact ⟨rfl, rfl⟩) rfl ?_
        exact ⟨_, _, _, _, rfl, IV.mk_ (h5.keep (kp2 ⟨_, _, x5⟩ (by decide) _ _ _ _)) (by rw [val_digs, hz]) HSZ.out, (b5.setCell (by dsimp only; omega) _).setCell (by dsimp only; omega) _⟩
      · have hlp : 0 < rest.length := List.length_pos_iff.2 hr0
        obtain ⟨L, hL⟩ : ∃ L, rest.length = L := ⟨_, rfl⟩
        obtain ⟨k, hk⟩ : ∃ k, (L - 1) % 9 = k := ⟨_, rfl⟩
        have hk9 : k < 9 := by rw [← hk]; exact Nat.mod_lt _ (by omega)
        have hst := hK.1.step (n := k + 1) hlp (by rw [hL, hk])
        rw [hL] at hst hlp hrl
        have hkL := hst.1
        have hsz1 : (⟨rest.toArray⟩ : ByteArray).size = L := hL
        have e1 : ((L : Int) - 1) % 9 = (k : Int) := by omega
        have e2 : (⟨rest.toArray⟩ : ByteArray).extract 0 (k + 1) = ⟨(rest.take (k + 1)).toArray⟩ := by rw [ext_v]; simp
        have e3 : (⟨rest.toArray⟩ : ByteArray).extract (k + 1) L = ⟨(rest.drop (k + 1)).toArray⟩ := by rw [ext_v, List.take_of_length_le]; rw [List.length_drop, hL]; exact Nat.le_refl _
        obtain ⟨x, hx⟩ : ∃ x, decVal (rest.take (k + 1)) = x := ⟨_, rfl⟩
        have htk := all_take hK.2.2.1 (k + 1)
        have hx9 : x < 1000000000 := by
          have h9 := decVal_lt htk
          rw [hx] at h9
          refine Nat.lt_of_lt_of_le h9 (Nat.le_trans (Nat.pow_le_pow_right (by omega) (show (rest.take (k + 1)).length ≤ 9 by rw [List.length_take]; omega)) (by decide))
        have hpd := all_drop hK.2.2.1 (k + 1)
        have HST := Lib.hid hst
        have HXX := Lib.hid hx
        have HTK := Lib.hid htk
        have HLR := Lib.hid hL
        have hnd : (rest.drop (k + 1)).length = L - (k + 1) := by rw [List.length_drop, hL]
        have HND := Lib.hid hnd
        have hT1 : (rest.take (k + 1)).length ≤ 9 := by rw [List.length_take]; omega
        have hT0 : rest.take (k + 1) ≠ [] := fun e => by have := congrArg List.length e; rw [List.length_take, hL] at this; simp at this; omega
        have HT1 := Lib.hid (And.intro hT1 hT0)
        have hpl := decVal_lt (show (pre ++ rest.take (k + 1)).all isDg = true by rw [List.all_append, hK.2.1, htk]; rfl)
        clear hk hst hx htk hL hr0 hnd hT1 hT0
        go_wp2_with (first
          | (go_at_call 58; (with_reducible refine (atoi_v _ (rest.take (k + 1)) x ?_ ?_ ?_ HXX.out).mono ?_); (exact HT1.out.1); (exact HT1.out.2); (exact HTK.out); rintro e w5 ⟨rfl, hb5⟩; have b5 : Below wr.heap.size wr (w5.alloc (.cells #[.int .u32 1000000000] 84)) := hb5.alloc hb5.size _; have y5 : Blk (w5.alloc (.cells #[.int .u32 1000000000] 84)) w5.heap.size 84 #[.int .u32 1000000000] := blkAt _ _ _ rfl)
          | (go_at_call 60; (with_reducible refine (times_n _ A1 n1 c1 (decVal pre) ?_ ?_ w5.heap.size 1000000000 1000000000 ?_ ?_ ?_).mono ?_); (exact hK.2.2.2.belw b5); omega; rfl; omega; (exact y5); rintro e w6 ⟨A6, n6, c6, rfl, h6, hb6⟩; have b6 := b5.trans (hb6.mono b5.size); have hn6 : n6 ≤ 1000000000 := (by have h9 := h6.2.1; rw [h9]; refine Nat.le_trans (length_digs_le (k := n1 + 1) ?_) (by omega); have h8 := (hK.2.2.2).vlt (Nat.le_refl _); rw [val_digs] at h8; rw [Nat.pow_succ]; exact Nat.mul_lt_mul'' h8 (by omega)))
          | (go_at_call 61; (with_reducible refine (trim_n _ w6.heap.size (x : Int) x ?_ ?_ ?_).mono ?_); (first | rfl | omega); omega; (exact blkAt _ _ _ rfl); rintro e w7 ⟨A7, n7, c7, rfl, h7, hb7⟩; have b7 : Below wr.heap.size wr w7 := (b6.alloc b6.size _).trans (hb7.mono (by have := b6.size; simp; omega)); have h67 : Below w6.heap.size w6 w7 := ((brefl w6).alloc (Nat.le_refl _) _).trans (hb7.mono (by simp)); have hn7 : n7 ≤ 1000000000 := (by have h9 := h7.2.1; rw [h9]; exact Nat.le_trans (length_digs_le (k := 1) (by omega)) (by omega)))
          | (go_at_call 59; (with_reducible refine (plus_k _ A6 n6 c6 (decVal pre * 1000000000) ?_ ?_ A7 n7 c7 x ?_ ?_).mono ?_); (exact h6.belw h67); omega; (exact h7); omega; rintro e w8 ⟨A8, n8, c8, rfl, h8, hb8⟩; have b8 := b7.trans (hb8.mono b7.size)))
        have hv8 : decVal pre * 1000000000 + x = decVal (pre ++ rest.take (k + 1)) := by rw [HST.out.2.2.2.2, HXX.out]
        go_roundw
        case rel =>
          refine ⟨pre ++ rest.take (k + 1), rest.drop (k + 1), A8, n8, c8, rfl, rfl, ?_, by rw [HND.out]; omega, ⟨HST.out.2.2.2.1, by rw [List.all_append, hK.2.1, HTK.out]; rfl, hpd, by rw [← hv8]; exact h8⟩, rr.trans (b8.mono rr.size)⟩
          rw [h8.2.1, hv8]
          refine Nat.le_trans (length_digs_le (Nat.lt_of_lt_of_le hpl (len_ten _))) ?_
          have h9 := congrArg List.length HST.out.2.2.2.1.1
          rw [List.length_append] at h9
          omega
        case measure =>
          show (rest.drop (k + 1)).length < rest.length
          rw [HND.out, HLR.out]; omega
  · go_enter Tryz.func23, Tryz.ntmps23
    go_wp2_with (first
      | (go_at_call 55; (with_reducible refine (prefix_v _ l _ HM.out.1).mono ?_); rintro e w1 ⟨rfl, hb1⟩; have b1 := b0.trans (hb1.mono b0.size); have x1 := x0.below hb1 x0.lt)
      | (go_at_call 56; (with_reducible refine (tprefix_v _ l _ HM.out.2).mono ?_); rintro e w2 ⟨rfl, hb2⟩; have b2 := b1.trans (hb2.mono b1.size); have x2 := x1.below hb2 x1.lt)
      | (go_at_call 57; (with_reducible refine (trim_v _ _ [] ?_ HX.out).mono ?_); (exact HTL.out); rintro e w3 ⟨rfl, hb3⟩; have b3 := b2.trans (hb3.mono b2.size); have x3 := x2.below hb3 x2.lt))
    clear htl0 htl1
    go_loopw [5, 6] (fun tv mv wr => ParseI [48] w3 wr tv mv) (fun tv _ _ => strLen tv)
    case atStart => exact ⟨[], [48], none, 0, 0, rfl, rfl, by omega, HLL.out, ⟨GrpI.start _, rfl, HALL.out, by rw [show decVal [] = 0 from rfl, digs_zero]; exact Wd.nil_ _⟩, brefl _⟩
    case round =>
      obtain ⟨pre, rest, A1, n1, c1, rfl, rfl, hn1, hrl, hK, rr⟩ := hrel
      have bw := b3.trans (rr.mono b3.size)
      have x4 := x3.below rr x3.lt
      by_cases hr0 : rest = []
      · subst hr0
        have hpre := hK.1.fin
        subst hpre
        have hsz1 := size_v []
        go_wp2_with (go_at_call 62; (with_reducible refine (whole_c _ false A1 n1 c1 (digs (decVal [48])) ?_ ?_).mono ?_); (exact hK.2.2.2); omega; rintro e w5 ⟨A5, n5, c5, rfl, h5, hb5⟩; have b5 := bw.trans (hb5.mono bw.size); have x5 := x4.below hb5 x4.lt; obtain ⟨d0, d1⟩ := x5.c2; obtain ⟨f0, f1⟩ := x5.f2)
        rw [val_digs] at h5
        have hz : sgn false (decVal [48]) = valZ l := by rw [HV.out]; rfl
        rw [hz] at h5
        refine bodyPost_ret (v := .tuple #[.agg #[.bool _, .slice A5 n5 c5], .nilIface]) (by simp [results, Tryz.results23, go_sem, *] <;> first | rfl | exact ⟨rfl, rfl⟩) rfl ?_
        exact ⟨_, _, _, _, rfl, IV.mk_ (h5.keep (kp2 ⟨_, _, x5⟩ (by decide) _ _ _ _)) (by rw [val_digs, hz]) HSZ.out, (b5.setCell (by dsimp only; omega) _).setCell (by dsimp only; omega) _⟩
      · have hlp : 0 < rest.length := List.length_pos_iff.2 hr0
        obtain ⟨L, hL⟩ : ∃ L, rest.length = L := ⟨_, rfl⟩
        obtain ⟨k, hk⟩ : ∃ k, (L - 1) % 9 = k := ⟨_, rfl⟩
        have hk9 : k < 9 := by rw [← hk]; exact Nat.mod_lt _ (by omega)
        have hst := hK.1.step (n := k + 1) hlp (by rw [hL, hk])
        rw [hL] at hst hlp hrl
        have hkL := hst.1
        have hsz1 : (⟨rest.toArray⟩ : ByteArray).size = L := hL
        have e1 : ((L : Int) - 1) % 9 = (k : Int) := by omega
        have e2 : (⟨rest.toArray⟩ : ByteArray).extract 0 (k + 1) = ⟨(rest.take (k + 1)).toArray⟩ := by rw [ext_v]; simp
        have e3 : (⟨rest.toArray⟩ : ByteArray).extract (k + 1) L = ⟨(rest.drop (k + 1)).toArray⟩ := by rw [ext_v, List.take_of_length_le]; rw [List.length_drop, hL]; exact Nat.le_refl _
        obtain ⟨x, hx⟩ : ∃ x, decVal (rest.take (k + 1)) = x := ⟨_, rfl⟩
        have htk := all_take hK.2.2.1 (k + 1)
        have hx9 : x < 1000000000 := by
          have h9 := decVal_lt htk
          rw [hx] at h9
          refine Nat.lt_of_lt_of_le h9 (Nat.le_trans (Nat.pow_le_pow_right (by omega) (show (rest.take (k + 1)).length ≤ 9 by rw [List.length_take]; omega)) (by decide))
        have hpd := all_drop hK.2.2.1 (k + 1)
        have HST := Lib.hid hst
        have HXX := Lib.hid hx
        have HTK := Lib.hid htk
        have HLR := Lib.hid hL
        have hnd : (rest.drop (k + 1)).length = L - (k + 1) := by rw [List.length_drop, hL]
        have HND := Lib.hid hnd
        have hT1 : (rest.take (k + 1)).length ≤ 9 := by rw [List.length_take]; omega
        have hT0 : rest.take (k + 1) ≠ [] := fun e => by have := congrArg List.length e; rw [List.length_take, hL] at this; simp at this; omega
        have HT1 := Lib.hid (And.intro hT1 hT0)
        have hpl := decVal_lt (show (pre ++ rest.take (k + 1)).all isDg = true by rw [List.all_append, hK.2.1, htk]; rfl)
        clear hk hst hx htk hL hr0 hnd hT1 hT0
        go_wp2_with (first
          | (go_at_call 58; (with_reducible refine (atoi_v _ (rest.take (k + 1)) x ?_ ?_ ?_ HXX.out).mono ?_); (exact HT1.out.1); (exact HT1.out.2); (exact HTK.out); rintro e w5 ⟨rfl, hb5⟩; have b5 : Below wr.heap.size wr (w5.alloc (.cells #[.int .u32 1000000000] 84)) := hb5.alloc hb5.size _; have y5 : Blk (w5.alloc (.cells #[.int .u32 1000000000] 84)) w5.heap.size 84 #[.int .u32 1000000000] := blkAt _ _ _ rfl)
          | (go_at_call 60; (with_reducible refine (times_n _ A1 n1 c1 (decVal pre) ?_ ?_ w5.heap.size 1000000000 1000000000 ?_ ?_ ?_).mono ?_); (exact hK.2.2.2.belw b5); omega; rfl; omega; (exact y5); rintro e w6 ⟨A6, n6, c6, rfl, h6, hb6⟩; have b6 := b5.trans (hb6.mono b5.size); have hn6 : n6 ≤ 1000000000 := (by have h9 := h6.2.1; rw [h9]; refine Nat.le_trans (length_digs_le (k := n1 + 1) ?_) (by omega); have h8 := (hK.2.2.2).vlt (Nat.le_refl _); rw [val_digs] at h8; rw [Nat.pow_succ]; exact Nat.mul_lt_mul'' h8 (by omega)))
          | (go_at_call 61; (with_reducible refine (trim_n _ w6.heap.size (x : Int) x ?_ ?_ ?_).mono ?_); (first | rfl | omega); omega; (exact blkAt _ _ _ rfl); rintro e w7 ⟨A7, n7, c7, rfl, h7, hb7⟩; have b7 : Below wr.heap.size wr w7 := (b6.alloc b6.size _).trans (hb7.mono (by have := b6.size; simp; omega)); have h67 : Below w6.heap.size w6 w7 := ((brefl w6).alloc (Nat.le_refl _) _).trans (hb7.mono (by simp)); have hn7 : n7 ≤ 1000000000 := (by have h9 := h7.2.1; rw [h9]; exact Nat.le_trans (length_digs_le (k := 1) (by omega)) (by omega)))
          | (go_at_call 59; (with_reducible refine (plus_k _ A6 n6 c6 (decVal pre * 1000000000) ?_ ?_ A7 n7 c7 x ?_ ?_).mono ?_); (exact h6.belw h67); omega; (exact h7); omega; rintro e w8 ⟨A8, n8, c8, rfl, h8, hb8⟩; have b8 := b7.trans (hb8.mono b7.size)))
        have hv8 : decVal pre * 1000000000 + x = decVal (pre ++ rest.take (k + 1)) := by rw [HST.out.2.2.2.2, HXX.out]
        go_roundw
        case rel =>
          refine ⟨pre ++ rest.take (k + 1), rest.drop (k + 1), A8, n8, c8, rfl, rfl, ?_, by rw [HND.out]; omega, ⟨HST.out.2.2.2.1, by rw [List.all_append, hK.2.1, HTK.out]; rfl, hpd, by rw [← hv8]; exact h8⟩, rr.trans (b8.mono rr.size)⟩
          rw [h8.2.1, hv8]
          refine Nat.le_trans (length_digs_le (Nat.lt_of_lt_of_le hpl (len_ten _))) ?_
          have h9 := congrArg List.length HST.out.2.2.2.1.1
          rw [List.length_append] at h9
          omega
        case measure =>
          show (rest.drop (k + 1)).length < rest.length
          rw [HND.out, HLR.out]; omega
end Go.Proofs.YtpnnfbodphflpaaGreatDoor

/- Walks: linkworkref01.Parse. -/
namespace Go.Proofs.YtpnnfbodphflpaaGreatDoor
open Go Go.RowKit Bn

set_option maxRecDepth 100000 in
set_option maxHeartbeats 2000000 in
/-- linkworkref01.Parse, the text being too long -/
theorem r_parse_big (w : World) (l : List UInt8) (hl : 65536 < l.length) :
    Calls Tryz.prog 24 #[strV l] w (RetIe w (.int .i64 4) 0 0) := by
  have hsz := size_v l
  go_enter Tryz.func24, Tryz.ntmps24
  go_wp2
  refine bodyPost_ret (v := .tuple #[.agg #[.bool false, .slice none 0 0], .int .i64 4]) (by simp [results, Tryz.results24, go_sem, *] <;> first | rfl | exact ⟨rfl, rfl⟩) rfl ?_
  exact ⟨_, _, _, _, rfl, IV.zero _ _, ((brefl w).alloc (Nat.le_refl _) _)⟩
theorem r_times_n (w : World) (A : Option Addr) (n c x : Nat) (wa : Wd w A n c (digs x)) (hn : n ≤ 1099511627776) (g : Nat) (z : Int) (y : Nat) (hz : z = y) (hy : y < 4294967296) (hb : Blk w g 84 #[.int .u32 z]) :
    Calls Tryz.prog 64 #[.slice A n c, .slice (some ⟨g, 0, none⟩) 1 1] w (RetL w (digs (x * y))) := by
  subst hz
  have h1 : Wd w (some ⟨g, 0, none⟩) 1 1 [y] := Blk.wdN (l := [y]) hb (by intro x hx; simp at hx; omega) rfl
  have := r_times_c w A n c (digs x) wa hn (some ⟨g, 0, none⟩) 1 1 [y] h1 (by omega)
  rw [val_digs, show val [y] = y by simp [val]] at this
  exact this
theorem r_plus_n (w : World) (A : Option Addr) (n c x : Nat) (wa : Wd w A n c (digs x)) (hn : n ≤ 1099511627776) (g : Nat) (z : Int) (y : Nat) (hz : z = y) (hy : y < 4294967296) (hb : Blk w g 84 #[.int .u32 z]) :
    Calls Tryz.prog 63 #[.slice A n c, .slice (some ⟨g, 0, none⟩) 1 1] w (RetL w (digs (x + y))) := by
  subst hz
  have h1 : Wd w (some ⟨g, 0, none⟩) 1 1 [y] := Blk.wdN (l := [y]) hb (by intro x hx; simp at hx; omega) rfl
  have := r_plus_c w A n c (digs x) wa hn (some ⟨g, 0, none⟩) 1 1 [y] h1 (by omega)
  rw [val_digs, show val [y] = y by simp [val]] at this
  exact this
theorem head_cases (l : List UInt8) : (headM l = true ∧ l = 45 :: tailS l) ∨ (headM l = false ∧ tailS l = l) := by
  cases l with
  | nil => exact .inr ⟨rfl, rfl⟩
  | cons x r =>
    by_cases h : x = 45
    · subst h; exact .inl ⟨rfl, rfl⟩
    · refine .inr ⟨?_, ?_⟩
      · unfold headM; split
        · rename_i h1; injection h1 with h2; exact absurd h2 h
        · rfl
      · unfold tailS; split
        · rename_i h1; injection h1 with h2; exact absurd h2 h
        · rfl
/-- Nothing. -/
def AnyW (_ : World) : Prop := True
theorem anyW (w : World) : AnyW w := True.intro
def RParseI (T : List UInt8) (W0 wr : World) (mv iv : Value) : Prop := ∃ k A1 n1 c1, iv = .int .i64 (k : Nat) ∧ mv = .slice A1 n1 c1 ∧ n1 ≤ 65536 ∧ k ≤ T.length ∧ Kept ((T.take k).all isDg = true ∧ Wd wr A1 n1 c1 (digs (decVal (T.take k)))) ∧ Below W0.heap.size W0 wr
/-- What the reading of digits gives. -/
def RetP (w : World) (T : List UInt8) (m : Bool) (k : Nat) (e : Ending) (w' : World) : Prop :=
  if T.all isDg = true then RetIe w (.int .i64 0) (if m then -(decVal T : Int) else decVal T) k e w' else RetIe w (.int .i64 2) 0 0 e w'
theorem RetP.bad {w w' : World} {T : List UInt8} {m : Bool} {k : Nat} {e : Ending} (h : ¬ T.all isDg = true) (hr : RetIe w (.int .i64 2) 0 0 e w') : RetP w T m k e w' := by
  unfold RetP; rw [if_neg h]; exact hr
theorem RetP.good {w w' : World} {T : List UInt8} {m : Bool} {k : Nat} {e : Ending} (h : T.all isDg = true) (hr : RetIe w (.int .i64 0) (if m then -(decVal T : Int) else decVal T) k e w') : RetP w T m k e w' := by
  unfold RetP; rw [if_pos h]; exact hr
set_option maxRecDepth 100000 in
set_option maxHeartbeats 4000000 in
/-- linkworkref01.Parse, the text beginning as an integer does -/
theorem r_parse_go (w : World) (l : List UInt8) (hl : l.length ≤ 65536) (m : Bool) (T : List UInt8) (hm : headM l = m) (hT : tailS l = T) (h0 : T ≠ []) (h2 : ¬ (T.head? = some 48 ∧ (1 < T.length ∨ m = true))) :
    Calls Tryz.prog 24 #[strV l] w (RetP w T m l.length) := by
  have hsz := size_v l
  have htl2 := tailS_len l
  rw [hT] at htl2
  have htl := Nat.le_trans htl2 hl
  have b0 : Below w.heap.size w (w.alloc (.cells #[.bool false, .slice none 0 0] 48)) := (brefl w).alloc (Nat.le_refl _) _
  have x0 : Blk (w.alloc (.cells #[.bool false, .slice none 0 0] 48)) w.heap.size 48 #[.bool false, .slice none 0 0] := blkAt _ _ _ rfl
  obtain ⟨c, r, hcr⟩ := List.exists_cons_of_ne_nil h0
  have hcase : c ≠ 48 ∨ (c = 48 ∧ T.length = 1 ∧ m = false) := by
    by_cases hc : c = 48
    · refine .inr ⟨hc, ?_, ?_⟩
      · subst hcr
        cases r with
        | nil => rfl
        | cons d rs => exact absurd ⟨by rw [hc]; rfl, .inl (by simp)⟩ h2
      · subst hcr
        cases m with
        | false => rfl
        | true => exact absurd ⟨by rw [hc]; rfl, .inr rfl⟩ h2
    · exact .inl hc
  have hszT := size_v T
  have HL2 := Lib.hid htl2
  have hgetT : ∀ h, (⟨T.toArray⟩ : ByteArray)[0]'h = c := fun h => by subst hcr; rfl
  have hTp : 0 < T.length := List.length_pos_iff.2 h0
  have hTb : ((T.length : Int) == 0) = false := by simp; exact h0
  have hlp : 0 < l.length := by omega
  have HM := Lib.hid (And.intro hm hT)
  have hlm : (m = true → l = 45 :: T) ∧ (m = false → l = T) := by
    rcases head_cases l with ⟨a, b⟩ | ⟨a, b⟩
    · rw [hT] at b; exact ⟨fun _ => b, fun h => (by rw [← hm, a] at h; cases h)⟩
    · rw [hT] at b; exact ⟨fun h => (by rw [← hm, a] at h; cases h), fun _ => b.symm⟩
  have hc45 : m = false → c ≠ 45 := fun h e => by
    have h9 := hlm.2 h
    rw [h9, hcr, e, h] at hm
    exact absurd hm (by simp [headM])
  clear h2 hm hT hcr
  have hcn : c ≠ 48 → c.toNat ≠ 48 := fun h e => h (UInt8.toNat.inj e)
  cases m with
  | true =>
    have hc : c ≠ 48 := by
      rcases hcase with h | ⟨_, _, h⟩
      · exact h
      · cases h
    have hl5 := hlm.1 rfl
    have hgetl : ∀ h, (⟨l.toArray⟩ : ByteArray)[0]'h = 45 := fun h => by subst hl5; rfl
    have e1 : (⟨l.toArray⟩ : ByteArray).extract 1 l.length = ⟨T.toArray⟩ := by rw [ext_v, hl5]; simp
    have hl1 : 1 < l.length := by rw [hl5]; simp; exact hTp
    replace hcn := hcn hc
    have hcz : ¬ (c.toNat : Int) = 48 := by omega
    have hcb : ((c.toNat : Int) == 48) = false := by simp; omega
    clear hcase hl5 hlm
    go_enter Tryz.func24, Tryz.ntmps24
    go_wp2
    clear hgetl hgetT e1 hcz hcb hcn hc hl1 h0
    go_loopw [6, 42] (fun mv iv wr => RParseI T (w.alloc (.cells #[.bool false, .slice none 0 0] 48)) wr mv iv) (fun _ iv _ => T.length - (intOf iv).toNat)
    case atStart => exact ⟨0, none, 0, 0, rfl, rfl, by omega, Nat.zero_le _, ⟨rfl, by rw [List.take_zero, show decVal [] = 0 from rfl, digs_zero]; exact Wd.nil_ _⟩, brefl _⟩
    case round =>
      obtain ⟨k, A1, n1, c1, rfl, rfl, hn1, hk, hK, rr⟩ := hrel
      have bw := b0.trans (rr.mono b0.size)
      by_cases hkT : k = T.length
      · subst hkT
        rw [List.take_length] at hK
        have x4 : Blk wr w.heap.size 48 #[.bool false, .slice none 0 0] := x0.below rr x0.lt
        go_wp2_with (go_at_call 65; (with_reducible refine (r_form_e _ true A1 n1 c1 (digs (decVal T)) (-(decVal T : Int)) ?_ ?_ ?_).mono ?_); (exact hK.2); omega; (rw [val_digs]; rfl); rintro e w5 ⟨A5, n5, c5, rfl, h5, hb5⟩; have b5 := bw.trans (hb5.mono bw.size); have x5 := x4.below hb5 x4.lt; obtain ⟨d0, d1⟩ := x5.c2; obtain ⟨f0, f1⟩ := x5.f2)
        refine bodyPost_ret (v := .tuple #[.agg #[.bool _, .slice A5 n5 c5], .int .i64 0]) (by simp [results, Tryz.results24, go_sem, *] <;> first | rfl | exact ⟨rfl, rfl⟩) rfl ?_
        refine RetP.good hK.1 ⟨_, _, _, _, rfl, IV.mk_ (h5.keep (kp2 ⟨_, _, x5⟩ (by decide) _ _ _ _)) rfl ?_, (b5.setCell (by dsimp only; omega) _).setCell (by dsimp only; omega) _⟩
        have h9 := Nat.lt_of_lt_of_le (decVal_words hK.1) (Nat.pow_le_pow_right (by omega) HL2.out)
        omega
      · have hkl : k < T.length := by omega
        obtain ⟨d, hd⟩ : ∃ d, T[k] = d := ⟨_, rfl⟩
        have hget : ∀ h, (⟨T.toArray⟩ : ByteArray)[k]'h = d := fun h => hd
        have hts : T.take (k + 1) = T.take k ++ [d] := by rw [List.take_succ_eq_append_getElem hkl, hd]
        have HTS := Lib.hid hts
        by_cases hdg : isDg d = true
        · have h8 : 48 ≤ d.toNat ∧ d.toNat ≤ 57 := by unfold isDg at hdg; rw [Bool.and_eq_true, decide_eq_true_eq, decide_eq_true_eq] at hdg; exact hdg
          obtain ⟨dn, hdn⟩ : ∃ dn, d.toNat = dn := ⟨_, rfl⟩
          obtain ⟨v, hv⟩ : ∃ v, dn - 48 = v := ⟨_, rfl⟩
          rw [hdn] at h8
          have e1 : (dn : Int) - 48 = (v : Int) := by omega
          have hv9 : v ≤ 9 := by omega
          have h81 := h8.1
          have h82 := h8.2
          have HD := Lib.hid (show dval d = v by unfold dval; rw [hdn]; exact hv)
          have HDG := Lib.hid hdg
          have hw8 : IntKind.u8.wrap (v : Int) = (v : Int) := IntWalk.u8_in _ ⟨by omega, by omega⟩
          have hw32 : IntKind.u32.wrap (v : Int) = (v : Int) := IntWalk.u32_in _ ⟨by omega, by omega⟩
          clear hd hts hdg hv hkT h8
          go_wp2_with fail
          go_region_held3 (fun w' => AnyW w') (exact anyW _) (first
            | (go_at_call 64; (with_reducible refine (r_times_n _ A1 n1 c1 (decVal (T.take k)) ?_ ?_ _ 10 10 ?_ ?_ ?_).mono ?_); (exact hK.2.belw (by first | exact (brefl wr).drew.alloc (by simp) _ | exact ((brefl wr).drew.alloc (by simp) _).alloc (by simp) _ | fail)); omega; rfl; omega; (first | exact blkAt _ _ _ (by simp) | exact (blkAt _ _ _ (by simp)).alloc _ | exact (blkAt _ _ _ (by simp)).drew | exact ((blkAt _ _ _ (by simp)).alloc _).drew | fail); rintro e w6 ⟨A6, n6, c6, rfl, h6, hb6⟩; have hn6 : n6 ≤ 1000000000 := (by have h9 := h6.2.1; rw [h9]; refine Nat.le_trans (length_digs_le (k := n1 + 1) ?_) (by omega); have h8 := hK.2.vlt (Nat.le_refl _); rw [val_digs] at h8; rw [Nat.pow_succ]; exact Nat.mul_lt_mul'' h8 (by omega)); have b6 : Below wr.heap.size wr w6 := (by first | exact ((brefl wr).drew.alloc (by simp) _).trans (hb6.mono (by simp)) | exact (((brefl wr).drew.alloc (by simp) _).alloc (by simp) _).trans (hb6.mono (by simp <;> omega)) | fail))
            | (go_at_call 63; (with_reducible refine (r_plus_n _ A6 n6 c6 (decVal (T.take k) * 10) ?_ ?_ _ (v : Int) v ?_ ?_ ?_).mono ?_); (first | exact h6 | exact h6.belw ((brefl w6).alloc (Nat.le_refl _) _)); omega; rfl; omega; (first | exact blkAt _ _ _ (by simp) | exact (blkAt _ _ _ (by simp)).below hb6 (by simp) | exact ((blkAt _ _ _ (by simp)).alloc _).below hb6 (by simp <;> omega) | exact (blkAt _ _ _ (by simp)).drew.below hb6 (by simp) | exact ((blkAt _ _ _ (by simp)).alloc _).drew.below hb6 (by simp <;> omega) | exact ((blkAt _ _ _ (by simp)).alloc _).drew.below hb6 (by simp) | fail); rintro e w7 ⟨A7, n7, c7, rfl, h7, hb7⟩; have b7 : Below wr.heap.size wr w7 := (by first | exact b6.trans (hb7.mono b6.size) | exact (b6.alloc b6.size _).trans (hb7.mono (by have := b6.size; simp; omega)) | fail)))
          all_goals
            clear hw8 hw32 e1
            go_wp2
            go_roundw
            case rel =>
              have hall : (T.take (k + 1)).all isDg = true := by rw [HTS.out, List.all_append, hK.1, List.all_cons, HDG.out]; rfl
              refine ⟨k + 1, A7, n7, c7, by go_num, rfl, ?_, hkl, ⟨hall, by rw [HTS.out, decVal_snoc, HD.out]; exact h7⟩, rr.trans (b7.mono rr.size)⟩
              have h9 := decVal_lt hall
              rw [HTS.out, decVal_snoc, HD.out] at h9
              rw [h7.2.1]
              refine Nat.le_trans (length_digs_le (Nat.lt_of_lt_of_le h9 (len_ten _))) ?_
              rw [← HTS.out, List.length_take]; omega
            case measure => simp [intOf]; omega
        · have hnall : ¬ T.all isDg = true := fun h => hdg (List.all_eq_true.1 h d (by rw [← hd]; exact List.getElem_mem _))
          have x4 : Blk wr w.heap.size 48 #[.bool false, .slice none 0 0] := x0.below rr x0.lt
          obtain ⟨d0, d1⟩ := x4.c2
          obtain ⟨f0, f1⟩ := x4.f2
          have hor : d.toNat < 48 ∨ (48 ≤ d.toNat ∧ 57 < d.toNat) := by
            unfold isDg at hdg; simp at hdg; omega
          obtain ⟨dn, hdn⟩ : ∃ dn, d.toNat = dn := ⟨_, rfl⟩
          rw [hdn] at hor
          have HN := Lib.hid hnall
          clear hd hts hdg hkT hnall
          rcases hor with h8 | ⟨h8, h82⟩
          all_goals
            go_wp2
            refine bodyPost_ret (v := .tuple #[.agg #[.bool false, .slice none 0 0], .int .i64 2]) (by simp [results, Tryz.results24, go_sem, *] <;> first | rfl | exact ⟨rfl, rfl⟩) rfl ?_
            exact RetP.bad HN.out ⟨_, _, _, _, rfl, IV.zero _ _, (bw.setCell (by dsimp only; omega) _).setCell (by dsimp only; omega) _⟩
  | false =>
    have hl0 : T = l := (hlm.2 rfl).symm
    subst hl0
    have h45 := hc45 rfl
    clear hlm hc45
    rcases hcase with hc | ⟨hc, hT1, _⟩
    · replace hcn := hcn hc
      have hcz : ¬ (c.toNat : Int) = 48 := by omega
      have hcb : ((c.toNat : Int) == 48) = false := by simp; omega
      have h5n : c.toNat ≠ 45 := fun e => h45 (UInt8.toNat.inj e)
      have hz5 : ¬ (c.toNat : Int) = 45 := by omega
      have hb5x : ((c.toNat : Int) == 45) = false := by simp; omega
      go_enter Tryz.func24, Tryz.ntmps24
      go_wp2
      clear hgetT hcz hcb hcn hc h0 hz5 hb5x h45
      go_loopw [6, 42] (fun mv iv wr => RParseI T (w.alloc (.cells #[.bool false, .slice none 0 0] 48)) wr mv iv) (fun _ iv _ => T.length - (intOf iv).toNat)
      case atStart => exact ⟨0, none, 0, 0, rfl, rfl, by omega, Nat.zero_le _, ⟨rfl, by rw [List.take_zero, show decVal [] = 0 from rfl, digs_zero]; exact Wd.nil_ _⟩, brefl _⟩
      case round =>
        obtain ⟨k, A1, n1, c1, rfl, rfl, hn1, hk, hK, rr⟩ := hrel
        have bw := b0.trans (rr.mono b0.size)
        by_cases hkT : k = T.length
        · subst hkT
          rw [List.take_length] at hK
          have x4 : Blk wr w.heap.size 48 #[.bool false, .slice none 0 0] := x0.below rr x0.lt
          go_wp2_with (go_at_call 65; (with_reducible refine (r_form_e _ false A1 n1 c1 (digs (decVal T)) (decVal T : Int) ?_ ?_ ?_).mono ?_); (exact hK.2); omega; (rw [val_digs]; rfl); rintro e w5 ⟨A5, n5, c5, rfl, h5, hb5⟩; have b5 := bw.trans (hb5.mono bw.size); have x5 := x4.below hb5 x4.lt; obtain ⟨d0, d1⟩ := x5.c2; obtain ⟨f0, f1⟩ := x5.f2)
          refine bodyPost_ret (v := .tuple #[.agg #[.bool _, .slice A5 n5 c5], .int .i64 0]) (by simp [results, Tryz.results24, go_sem, *] <;> first | rfl | exact ⟨rfl, rfl⟩) rfl ?_
          refine RetP.good hK.1 ⟨_, _, _, _, rfl, IV.mk_ (h5.keep (kp2 ⟨_, _, x5⟩ (by decide) _ _ _ _)) rfl ?_, (b5.setCell (by dsimp only; omega) _).setCell (by dsimp only; omega) _⟩
          have h9 := Nat.lt_of_lt_of_le (decVal_words hK.1) (Nat.pow_le_pow_right (by omega) HL2.out)
          omega
        · have hkl : k < T.length := by omega
          obtain ⟨d, hd⟩ : ∃ d, T[k] = d := ⟨_, rfl⟩
          have hget : ∀ h, (⟨T.toArray⟩ : ByteArray)[k]'h = d := fun h => hd
          have hts : T.take (k + 1) = T.take k ++ [d] := by rw [List.take_succ_eq_append_getElem hkl, hd]
          have HTS := Lib.hid hts
          by_cases hdg : isDg d = true
          · have h8 : 48 ≤ d.toNat ∧ d.toNat ≤ 57 := by unfold isDg at hdg; rw [Bool.and_eq_true, decide_eq_true_eq, decide_eq_true_eq] at hdg; exact hdg
            obtain ⟨dn, hdn⟩ : ∃ dn, d.toNat = dn := ⟨_, rfl⟩
            obtain ⟨v, hv⟩ : ∃ v, dn - 48 = v := ⟨_, rfl⟩
            rw [hdn] at h8
            have e1 : (dn : Int) - 48 = (v : Int) := by omega
            have hv9 : v ≤ 9 := by omega
            have h81 := h8.1
            have h82 := h8.2
            have HD := Lib.hid (show dval d = v by unfold dval; rw [hdn]; exact hv)
            have HDG := Lib.hid hdg
            have hw8 : IntKind.u8.wrap (v : Int) = (v : Int) := IntWalk.u8_in _ ⟨by omega, by omega⟩
            have hw32 : IntKind.u32.wrap (v : Int) = (v : Int) := IntWalk.u32_in _ ⟨by omega, by omega⟩
            clear hd hts hdg hv hkT h8
            go_wp2_with fail
            go_region_held3 (fun w' => AnyW w') (exact anyW _) (first
              | (go_at_call 64; (with_reducible refine (r_times_n _ A1 n1 c1 (decVal (T.take k)) ?_ ?_ _ 10 10 ?_ ?_ ?_).mono ?_); (exact hK.2.belw (by first | exact (brefl wr).drew.alloc (by simp) _ | exact ((brefl wr).drew.alloc (by simp) _).alloc (by simp) _ | fail)); omega; rfl; omega; (first | exact blkAt _ _ _ (by simp) | exact (blkAt _ _ _ (by simp)).alloc _ | exact (blkAt _ _ _ (by simp)).drew | exact ((blkAt _ _ _ (by simp)).alloc _).drew | fail); rintro e w6 ⟨A6, n6, c6, rfl, h6, hb6⟩; have hn6 : n6 ≤ 1000000000 := (by have h9 := h6.2.1; rw [h9]; refine Nat.le_trans (length_digs_le (k := n1 + 1) ?_) (by omega); have h8 := hK.2.vlt (Nat.le_refl _); rw [val_digs] at h8; rw [Nat.pow_succ]; exact Nat.mul_lt_mul'' h8 (by omega)); have b6 : Below wr.heap.size wr w6 := (by first | exact ((brefl wr).drew.alloc (by simp) _).trans (hb6.mono (by simp)) | exact (((brefl wr).drew.alloc (by simp) _).alloc (by simp) _).trans (hb6.mono (by simp <;> omega)) | fail))
              | (go_at_call 63; (with_reducible refine (r_plus_n _ A6 n6 c6 (decVal (T.take k) * 10) ?_ ?_ _ (v : Int) v ?_ ?_ ?_).mono ?_); (first | exact h6 | exact h6.belw ((brefl w6).alloc (Nat.le_refl _) _)); omega; rfl; omega; (first | exact blkAt _ _ _ (by simp) | exact (blkAt _ _ _ (by simp)).below hb6 (by simp) | exact ((blkAt _ _ _ (by simp)).alloc _).below hb6 (by simp <;> omega) | exact (blkAt _ _ _ (by simp)).drew.below hb6 (by simp) | exact ((blkAt _ _ _ (by simp)).alloc _).drew.below hb6 (by simp <;> omega) | exact ((blkAt _ _ _ (by simp)).alloc _).drew.below hb6 (by simp) | fail); rintro e w7 ⟨A7, n7, c7, rfl, h7, hb7⟩; have b7 : Below wr.heap.size wr w7 := (by first | exact b6.trans (hb7.mono b6.size) | exact (b6.alloc b6.size _).trans (hb7.mono (by have := b6.size; simp; omega)) | fail)))
            all_goals
              clear hw8 hw32 e1
              go_wp2
              go_roundw
              case rel =>
                have hall : (T.take (k + 1)).all isDg = true := by rw [HTS.out, List.all_append, hK.1, List.all_cons, HDG.out]; rfl
                refine ⟨k + 1, A7, n7, c7, by go_num, rfl, ?_, hkl, ⟨hall, by rw [HTS.out, decVal_snoc, HD.out]; exact h7⟩, rr.trans (b7.mono rr.size)⟩
                have h9 := decVal_lt hall
                rw [HTS.out, decVal_snoc, HD.out] at h9
                rw [h7.2.1]
                refine Nat.le_trans (length_digs_le (Nat.lt_of_lt_of_le h9 (len_ten _))) ?_
                rw [← HTS.out, List.length_take]; omega
              case measure => simp [intOf]; omega
          · have hnall : ¬ T.all isDg = true := fun h => hdg (List.all_eq_true.1 h d (by rw [← hd]; exact List.getElem_mem _))
            have x4 : Blk wr w.heap.size 48 #[.bool false, .slice none 0 0] := x0.below rr x0.lt
            obtain ⟨d0, d1⟩ := x4.c2
            obtain ⟨f0, f1⟩ := x4.f2
            have hor : d.toNat < 48 ∨ (48 ≤ d.toNat ∧ 57 < d.toNat) := by
              unfold isDg at hdg; simp at hdg; omega
            obtain ⟨dn, hdn⟩ : ∃ dn, d.toNat = dn := ⟨_, rfl⟩
            rw [hdn] at hor
            have HN := Lib.hid hnall
            clear hd hts hdg hkT hnall
            rcases hor with h8 | ⟨h8, h82⟩
            all_goals
              go_wp2
              refine bodyPost_ret (v := .tuple #[.agg #[.bool false, .slice none 0 0], .int .i64 2]) (by simp [results, Tryz.results24, go_sem, *] <;> first | rfl | exact ⟨rfl, rfl⟩) rfl ?_
              exact RetP.bad HN.out ⟨_, _, _, _, rfl, IV.zero _ _, (bw.setCell (by dsimp only; omega) _).setCell (by dsimp only; omega) _⟩
    · subst hc
      have hT2 : ¬ 1 < T.length := by omega
      have hT3 : ¬ (1 : Int) < (T.length : Int) := by omega
      clear hT1
      go_enter Tryz.func24, Tryz.ntmps24
      go_wp2
      clear hgetT hcn h0 hT3
      go_loopw [6, 42] (fun mv iv wr => RParseI T (w.alloc (.cells #[.bool false, .slice none 0 0] 48)) wr mv iv) (fun _ iv _ => T.length - (intOf iv).toNat)
      case atStart => exact ⟨0, none, 0, 0, rfl, rfl, by omega, Nat.zero_le _, ⟨rfl, by rw [List.take_zero, show decVal [] = 0 from rfl, digs_zero]; exact Wd.nil_ _⟩, brefl _⟩
      case round =>
        obtain ⟨k, A1, n1, c1, rfl, rfl, hn1, hk, hK, rr⟩ := hrel
        have bw := b0.trans (rr.mono b0.size)
        by_cases hkT : k = T.length
        · subst hkT
          rw [List.take_length] at hK
          have x4 : Blk wr w.heap.size 48 #[.bool false, .slice none 0 0] := x0.below rr x0.lt
          go_wp2_with (go_at_call 65; (with_reducible refine (r_form_e _ false A1 n1 c1 (digs (decVal T)) (decVal T : Int) ?_ ?_ ?_).mono ?_); (exact hK.2); omega; (rw [val_digs]; rfl); rintro e w5 ⟨A5, n5, c5, rfl, h5, hb5⟩; have b5 := bw.trans (hb5.mono bw.size); have x5 := x4.below hb5 x4.lt; obtain ⟨d0, d1⟩ := x5.c2; obtain ⟨f0, f1⟩ := x5.f2)
          refine bodyPost_ret (v := .tuple #[.agg #[.bool _, .slice A5 n5 c5], .int .i64 0]) (by simp [results, Tryz.results24, go_sem, *] <;> first | rfl | exact ⟨rfl, rfl⟩) rfl ?_
          refine RetP.good hK.1 ⟨_, _, _, _, rfl, IV.mk_ (h5.keep (kp2 ⟨_, _, x5⟩ (by decide) _ _ _ _)) rfl ?_, (b5.setCell (by dsimp only; omega) _).setCell (by dsimp only; omega) _⟩
          have h9 := Nat.lt_of_lt_of_le (decVal_words hK.1) (Nat.pow_le_pow_right (by omega) HL2.out)
          omega
        · have hkl : k < T.length := by omega
          obtain ⟨d, hd⟩ : ∃ d, T[k] = d := ⟨_, rfl⟩
          have hget : ∀ h, (⟨T.toArray⟩ : ByteArray)[k]'h = d := fun h => hd
          have hts : T.take (k + 1) = T.take k ++ [d] := by rw [List.take_succ_eq_append_getElem hkl, hd]
          have HTS := Lib.hid hts
          by_cases hdg : isDg d = true
          · have h8 : 48 ≤ d.toNat ∧ d.toNat ≤ 57 := by unfold isDg at hdg; rw [Bool.and_eq_true, decide_eq_true_eq, decide_eq_true_eq] at hdg; exact hdg
            obtain ⟨dn, hdn⟩ : ∃ dn, d.toNat = dn := ⟨_, rfl⟩
            obtain ⟨v, hv⟩ : ∃ v, dn - 48 = v := ⟨_, rfl⟩
            rw [hdn] at h8
            have e1 : (dn : Int) - 48 = (v : Int) := by omega
            have hv9 : v ≤ 9 := by omega
            have h81 := h8.1
            have h82 := h8.2
            have HD := Lib.hid (show dval d = v by unfold dval; rw [hdn]; exact hv)
            have HDG := Lib.hid hdg
            have hw8 : IntKind.u8.wrap (v : Int) = (v : Int) := IntWalk.u8_in _ ⟨by omega, by omega⟩
            have hw32 : IntKind.u32.wrap (v : Int) = (v : Int) := IntWalk.u32_in _ ⟨by omega, by omega⟩
            clear hd hts hdg hv hkT h8
            go_wp2_with fail
            go_region_held3 (fun w' => AnyW w') (exact anyW _) (first
              | (go_at_call 64; (with_reducible refine (r_times_n _ A1 n1 c1 (decVal (T.take k)) ?_ ?_ _ 10 10 ?_ ?_ ?_).mono ?_); (exact hK.2.belw (by first | exact (brefl wr).drew.alloc (by simp) _ | exact ((brefl wr).drew.alloc (by simp) _).alloc (by simp) _ | fail)); omega; rfl; omega; (first | exact blkAt _ _ _ (by simp) | exact (blkAt _ _ _ (by simp)).alloc _ | exact (blkAt _ _ _ (by simp)).drew | exact ((blkAt _ _ _ (by simp)).alloc _).drew | fail); rintro e w6 ⟨A6, n6, c6, rfl, h6, hb6⟩; have hn6 : n6 ≤ 1000000000 := (by have h9 := h6.2.1; rw [h9]; refine Nat.le_trans (length_digs_le (k := n1 + 1) ?_) (by omega); have h8 := hK.2.vlt (Nat.le_refl _); rw [val_digs] at h8; rw [Nat.pow_succ]; exact Nat.mul_lt_mul'' h8 (by omega)); have b6 : Below wr.heap.size wr w6 := (by first | exact ((brefl wr).drew.alloc (by simp) _).trans (hb6.mono (by simp)) | exact (((brefl wr).drew.alloc (by simp) _).alloc (by simp) _).trans (hb6.mono (by simp <;> omega)) | fail))
              | (go_at_call 63; (with_reducible refine (r_plus_n _ A6 n6 c6 (decVal (T.take k) * 10) ?_ ?_ _ (v : Int) v ?_ ?_ ?_).mono ?_); (first | exact h6 | exact h6.belw ((brefl w6).alloc (Nat.le_refl _) _)); omega; rfl; omega; (first | exact blkAt _ _ _ (by simp) | exact (blkAt _ _ _ (by simp)).below hb6 (by simp) | exact ((blkAt _ _ _ (by simp)).alloc _).below hb6 (by simp <;> omega) | exact (blkAt _ _ _ (by simp)).drew.below hb6 (by simp) | exact ((blkAt _ _ _ (by simp)).alloc _).drew.below hb6 (by simp <;> omega) | exact ((blkAt _ _ _ (by simp)).alloc _).drew.below hb6 (by simp) | fail); rintro e w7 ⟨A7, n7, c7, rfl, h7, hb7⟩; have b7 : Below wr.heap.size wr w7 := (by first | exact b6.trans (hb7.mono b6.size) | exact (b6.alloc b6.size _).trans (hb7.mono (by have := b6.size; simp; omega)) | fail)))
            all_goals
              clear hw8 hw32 e1
              go_wp2
              go_roundw
              case rel =>
                have hall : (T.take (k + 1)).all isDg = true := by rw [HTS.out, List.all_append, hK.1, List.all_cons, HDG.out]; rfl
                refine ⟨k + 1, A7, n7, c7, by go_num, rfl, ?_, hkl, ⟨hall, by rw [HTS.out, decVal_snoc, HD.out]; exact h7⟩, rr.trans (b7.mono rr.size)⟩
                have h9 := decVal_lt hall
                rw [HTS.out, decVal_snoc, HD.out] at h9
                rw [h7.2.1]
                refine Nat.le_trans (length_digs_le (Nat.lt_of_lt_of_le h9 (len_ten _))) ?_
                rw [← HTS.out, List.length_take]; omega
              case measure => simp [intOf]; omega
          · have hnall : ¬ T.all isDg = true := fun h => hdg (List.all_eq_true.1 h d (by rw [← hd]; exact List.getElem_mem _))
            have x4 : Blk wr w.heap.size 48 #[.bool false, .slice none 0 0] := x0.below rr x0.lt
            obtain ⟨d0, d1⟩ := x4.c2
            obtain ⟨f0, f1⟩ := x4.f2
            have hor : d.toNat < 48 ∨ (48 ≤ d.toNat ∧ 57 < d.toNat) := by
              unfold isDg at hdg; simp at hdg; omega
            obtain ⟨dn, hdn⟩ : ∃ dn, d.toNat = dn := ⟨_, rfl⟩
            rw [hdn] at hor
            have HN := Lib.hid hnall
            clear hd hts hdg hkT hnall
            rcases hor with h8 | ⟨h8, h82⟩
            all_goals
              go_wp2
              refine bodyPost_ret (v := .tuple #[.agg #[.bool false, .slice none 0 0], .int .i64 2]) (by simp [results, Tryz.results24, go_sem, *] <;> first | rfl | exact ⟨rfl, rfl⟩) rfl ?_
              exact RetP.bad HN.out ⟨_, _, _, _, rfl, IV.zero _ _, (bw.setCell (by dsimp only; omega) _).setCell (by dsimp only; omega) _⟩
set_option maxRecDepth 100000 in
set_option maxHeartbeats 4000000 in
/-- linkworkref01.Parse, no digit, or a zero too much -/
theorem r_parse_zero (w : World) (l : List UInt8) (hl : l.length ≤ 65536) (h : tailS l = [] ∨ (tailS l ≠ [] ∧ (tailS l).head? = some 48 ∧ (1 < (tailS l).length ∨ headM l = true))) :
    Calls Tryz.prog 24 #[strV l] w (RetIe w (.int .i64 2) 0 0) := by
  have hsz := size_v l
  have b0 : Below w.heap.size w (w.alloc (.cells #[.bool false, .slice none 0 0] 48)) := (brefl w).alloc (Nat.le_refl _) _
  rcases h with h | ⟨h0, h1, h2⟩
  · rcases head_cases l with ⟨a, b⟩ | ⟨a, b⟩
    · rw [h] at b
      subst b
      clear h a hl
      go_enter Tryz.func24, Tryz.ntmps24
      go_wp2
      refine bodyPost_ret (v := .tuple #[.agg #[.bool false, .slice none 0 0], .int .i64 2]) (by simp [results, Tryz.results24, go_sem, *] <;> first | rfl | exact ⟨rfl, rfl⟩) rfl ?_
      exact ⟨_, _, _, _, rfl, IV.zero _ _, b0⟩
    · rw [h] at b
      subst b
      clear h a hl
      go_enter Tryz.func24, Tryz.ntmps24
      go_wp2
      refine bodyPost_ret (v := .tuple #[.agg #[.bool false, .slice none 0 0], .int .i64 2]) (by simp [results, Tryz.results24, go_sem, *] <;> first | rfl | exact ⟨rfl, rfl⟩) rfl ?_
      exact ⟨_, _, _, _, rfl, IV.zero _ _, b0⟩
  · obtain ⟨T, hT⟩ : ∃ T, tailS l = T := ⟨_, rfl⟩
    rw [hT] at h0 h1 h2
    obtain ⟨c, r, hcr⟩ := List.exists_cons_of_ne_nil h0
    have hc : c = 48 := by rw [hcr] at h1; simpa using h1
    subst hc
    have hszT := size_v T
    have hgetT : ∀ h, (⟨T.toArray⟩ : ByteArray)[0]'h = 48 := fun h => by subst hcr; rfl
    have hTp : 0 < T.length := List.length_pos_iff.2 h0
    have htl2 := tailS_len l
    rw [hT] at htl2
    have hlp : 0 < l.length := by omega
    rcases head_cases l with ⟨a, b⟩ | ⟨a, b⟩
    · rw [hT] at b
      have hgetl : ∀ h, (⟨l.toArray⟩ : ByteArray)[0]'h = 45 := fun h => by subst b; rfl
      have e1 : (⟨l.toArray⟩ : ByteArray).extract 1 l.length = ⟨T.toArray⟩ := by rw [ext_v, b]; simp
      have hl1 : 1 < l.length := by rw [b]; simp; exact hTp
      clear hT h1 h2 a b hcr
      by_cases h3 : 1 < T.length
      · have h4 : (1 : Int) < (T.length : Int) := by omega
        go_enter Tryz.func24, Tryz.ntmps24
        go_wp2
        refine bodyPost_ret (v := .tuple #[.agg #[.bool false, .slice none 0 0], .int .i64 2]) (by simp [results, Tryz.results24, go_sem, *] <;> first | rfl | exact ⟨rfl, rfl⟩) rfl ?_
        exact ⟨_, _, _, _, rfl, IV.zero _ _, b0⟩
      · have h4 : ¬ (1 : Int) < (T.length : Int) := by omega
        go_enter Tryz.func24, Tryz.ntmps24
        go_wp2
        refine bodyPost_ret (v := .tuple #[.agg #[.bool false, .slice none 0 0], .int .i64 2]) (by simp [results, Tryz.results24, go_sem, *] <;> first | rfl | exact ⟨rfl, rfl⟩) rfl ?_
        exact ⟨_, _, _, _, rfl, IV.zero _ _, b0⟩
    · rw [hT] at b
      have b' : T = l := b
      subst b'
      have h3 : 1 < T.length := by
        rcases h2 with h | h
        · exact h
        · rw [a] at h; cases h
      have h4 : (1 : Int) < (T.length : Int) := by omega
      clear hT h1 h2 a b hcr
      go_enter Tryz.func24, Tryz.ntmps24
      go_wp2
      refine bodyPost_ret (v := .tuple #[.agg #[.bool false, .slice none 0 0], .int .i64 2]) (by simp [results, Tryz.results24, go_sem, *] <;> first | rfl | exact ⟨rfl, rfl⟩) rfl ?_
      exact ⟨_, _, _, _, rfl, IV.zero _ _, b0⟩
/-- What a text gives: the integer, or the error. -/
theorem r_parse_ok (w : World) (l : List UInt8) (hl : l.length ≤ 65536) (hb : okZ l = true) : Calls Tryz.prog 24 #[strV l] w (RetIe w (.int .i64 0) (valZ l) l.length) := by
  obtain ⟨h0, h1, h2⟩ := okZ_parts hb
  refine (r_parse_go w l hl _ _ rfl rfl h0 h2).mono fun e w' h => ?_
  unfold RetP at h
  rw [if_pos h1] at h
  exact h
theorem r_parse_bad (w : World) (l : List UInt8) (hl : l.length ≤ 65536) (hb : okZ l = false) : Calls Tryz.prog 24 #[strV l] w (RetIe w (.int .i64 2) 0 0) := by
  rcases okZ_not hb with h | ⟨h0, h1⟩ | ⟨h0, h1, h2, h3⟩
  · exact r_parse_zero w l hl (.inl h)
  · by_cases h4 : (tailS l).head? = some 48 ∧ (1 < (tailS l).length ∨ headM l = true)
    · exact r_parse_zero w l hl (.inr ⟨h0, h4.1, h4.2⟩)
    · refine (r_parse_go w l hl _ _ rfl rfl h0 h4).mono fun e w' h => ?_
      unfold RetP at h
      rw [if_neg (by rw [h1]; simp)] at h
      exact h
  · exact r_parse_zero w l hl (.inr ⟨h0, h2, h3⟩)
end Go.Proofs.YtpnnfbodphflpaaGreatDoor

/- Walks: IntegerTexts. -/
namespace Go.Proofs.YtpnnfbodphflpaaGreatDoor
open Go Go.RowKit Bn
attribute [local go_sem ↓] Go.wp_at_zero Go.wp_at_succ
/-- An error of the program by its number. -/
def errV (x : Int) : Value := if x = 0 then .nilIface else .iface 71 (.int .i64 x)
theorem errV_0 : errV 0 = .nilIface := if_pos rfl
/-- What reading a text gives: the error's number, the integer. -/
def ParseOut (l : List UInt8) (x z : Int) : Prop := (65536 < l.length ∧ x = 4 ∧ z = 0) ∨ (l.length ≤ 65536 ∧ okZ l = false ∧ x = 2 ∧ z = 0) ∨ (l.length ≤ 65536 ∧ okZ l = true ∧ x = 0 ∧ z = valZ l)
theorem parseOut (l : List UInt8) : ∃ x z, ParseOut l x z := by
  by_cases h : 65536 < l.length
  · exact ⟨4, 0, .inl ⟨h, rfl, rfl⟩⟩
  · cases hb : okZ l
    · exact ⟨2, 0, .inr (.inl ⟨by omega, hb, rfl, rfl⟩)⟩
    · exact ⟨0, valZ l, .inr (.inr ⟨by omega, hb, rfl, rfl⟩)⟩
theorem RetIe.mono {w w' : World} {v : Value} {z : Int} {k j : Nat} {e : Ending} (h : RetIe w v z k e w') (hk : k ≤ j) : RetIe w v z j e w' := by
  obtain ⟨b, A, n, c, h1, h2, h3⟩ := h
  exact ⟨b, A, n, c, h1, h2.mono hk, h3⟩
theorem i_parse_o (w : World) (l : List UInt8) (x z : Int) (h : ParseOut l x z) : Calls Tryz.prog 23 #[strV l] w (RetIe w (errV x) z 65536) := by
  rcases h with ⟨h1, rfl, rfl⟩ | ⟨h1, h2, rfl, rfl⟩ | ⟨h1, h2, rfl, rfl⟩
  · exact (i_parse_big w l h1).mono fun e w' r => r.mono (by omega)
  · exact (i_parse_bad w l h1 h2).mono fun e w' r => r.mono (by omega)
  · exact (i_parse_ok w l h1 h2).mono fun e w' r => r.mono (by omega)
theorem r01_parse_o (w : World) (l : List UInt8) (x z : Int) (h : ParseOut l x z) : Calls Tryz.prog 24 #[strV l] w (RetIe w (.int .i64 x) z 65536) := by
  rcases h with ⟨h1, rfl, rfl⟩ | ⟨h1, h2, rfl, rfl⟩ | ⟨h1, h2, rfl, rfl⟩
  · exact (r_parse_big w l h1).mono fun e w' r => r.mono (by omega)
  · exact (r_parse_bad w l h1 h2).mono fun e w' r => r.mono (by omega)
  · exact (r_parse_ok w l h1 h2).mono fun e w' r => r.mono (by omega)
theorem b_num_v (w : World) (x : Int) : Calls Tryz.prog 13 #[errV x] w (RetV w (.int .i64 x)) := by
  unfold errV
  split
  · rename_i h; subst h; exact b_num_nil w
  · exact b_num_err w x
theorem i_text_l (w : World) (b : Bool) (A : Option Addr) (n c : Nat) (z : Int) (k : Nat) (h : IZ w b A n c z k) (T : List UInt8) (hk : k ≤ 1000000000) (ht : Tab w) (hT : Lib.itoa z = T) : Calls Tryz.prog 25 #[.agg #[.bool b, .slice A n c]] w (RetV w (strV T)) := by
  subst hT
  obtain ⟨l, h1, rfl, h3⟩ := h
  exact text_C w b A n c l h1 (by omega) ht
theorem r01_text_l (w : World) (b : Bool) (A : Option Addr) (n c : Nat) (z : Int) (k : Nat) (h : IZ w b A n c z k) (T : List UInt8) (hk : k ≤ 1000000000) (hT : Lib.itoa z = T) : Calls Tryz.prog 26 #[.agg #[.bool b, .slice A n c]] w (RetV w (strV T)) := by
  subst hT
  obtain ⟨l, h1, rfl, h3⟩ := h
  exact r_text_C w b A n c l h1 (by omega)
set_option maxRecDepth 100000 in
set_option maxHeartbeats 8000000 in
/-- linkworklaw01.IntegerTexts -/
theorem l_IntegerTexts (w : World) (b : Bool) (A : Option Addr) (n c : Nat) (z : Int) (k : Nat) (H : IZ w b A n c z k) (s : List UInt8) (hs : s.length < 9223372036854775808) (htab : Tab w) :
    Calls Tryz.prog 4 #[.agg #[.bool b, .slice A n c], strV s] w (RetV w (.bool true)) := by
  have hsz := size_v s
  obtain ⟨x, u, hp⟩ := parseOut s
  obtain ⟨T, hT⟩ : ∃ T, Lib.itoa z = T := ⟨_, rfl⟩
  have HP := Lib.hid hp
  have HT := Lib.hid hT
  clear hp hT
  go_enter Tryz.func4, Tryz.ntmps4
  go_wp2_with fail
  (with_reducible refine (l_short _ (w.heap.size + 1) 1 (fun i : Nat => n) ?_ ?_).mono ?_); (exact ws1 (blkAt _ _ _ (by simp))); (decide); rintro e w1 ⟨r1, rfl, hr1, hb1⟩
  have q1 : Below w.heap.size w w1 := (((Below.refl _ _).alloc (Nat.le_refl _) _).alloc (by simp) _).trans (hb1.mono (by simp <;> omega))
  replace H := H.belw q1
  have x1_0 : Blk w1 (w.heap.size) 48 #[.bool b, .slice A n c] := ((blkAt _ _ _ (by simp)).alloc _).below hb1 (by simp <;> omega)
  have x1_1 : Blk w1 (w.heap.size + 1) 48 #[.bool b, .slice A n c] := (blkAt _ _ _ (by simp)).below hb1 (by simp)
  have bw1 : Below w.heap.size w w1 := (brefl w).trans (q1.mono (brefl w).size)
  have lw1 : w.heap.size + 2 ≤ w1.heap.size := by have := hb1.size; simp at this; omega
  clear hb1 q1
  cases r1
  · clear hr1
    go_wp2_with fail
    (with_reducible refine (l_awake _  ?_).mono ?_); (exact htab.belw bw1); rintro e w2 ⟨rfl, hb2⟩
    have q2 : Below w1.heap.size w1 w2 := hb2
    replace H := H.belw q2
    replace x1_0 := x1_0.below q2 x1_0.lt
    replace x1_1 := x1_1.below q2 x1_1.lt
    have bw2 : Below w.heap.size w w2 := bw1.trans (q2.mono bw1.size)
    have lw2 : w1.heap.size ≤ w2.heap.size := q2.size
    clear hb2 q2 bw1
    go_wp2_with fail
    go_ret
    exact retB rfl bw2
  · have hn30 : n ≤ 30 := hr1 rfl 0 (by decide)
    replace H := IZ.short H hn30
    clear hr1
    rcases (show s.length ≤ 400 ∨ (400 < s.length ∧ s.length ≤ 65536) ∨ (65536 < s.length ∧ s.length ≤ 65636) ∨ 65636 < s.length by omega) with hc | ⟨hc, hd⟩ | ⟨hc, hd⟩ | hc
    · have hc2 : s.length ≤ 65636 := by omega
      go_wp2_with fail
      (with_reducible refine (l_awake _  ?_).mono ?_); (exact htab.belw bw1); rintro e w2 ⟨rfl, hb2⟩
      have q2 : Below w1.heap.size w1 w2 := hb2
      replace H := H.belw q2
      replace x1_0 := x1_0.below q2 x1_0.lt
      replace x1_1 := x1_1.below q2 x1_1.lt
      have bw2 : Below w.heap.size w w2 := bw1.trans (q2.mono bw1.size)
      have lw2 : w1.heap.size ≤ w2.heap.size := q2.size
      clear hb2 q2 bw1
      go_wp2_with fail
      (with_reducible refine (i_parse_o _ (s) x u ?_).mono ?_); (exact HP.out); rintro e w3 ⟨b3, A3, n3, c3, rfl, h3, hb3⟩
      have q3 : Below w2.heap.size w2 w3 := hb3
      replace H := H.belw q3
      replace x1_0 := x1_0.below q3 x1_0.lt
      replace x1_1 := x1_1.below q3 x1_1.lt
      have bw3 : Below w.heap.size w w3 := bw2.trans (q3.mono bw2.size)
      have lw3 : w2.heap.size ≤ w3.heap.size := q3.size
      clear hb3 q3 bw2
      go_wp2_with fail
      (with_reducible refine (r01_parse_o _ (s) x u ?_).mono ?_); (exact HP.out); rintro e w4 ⟨b4, A4, n4, c4, rfl, h4, hb4⟩
      have q4 : Below w3.heap.size w3 w4 := ((Below.refl _ _).alloc (Nat.le_refl _) _).trans (hb4.mono (by simp))
      replace H := H.belw q4
      replace h3 := h3.belw q4
      replace x1_0 := x1_0.below q4 x1_0.lt
      replace x1_1 := x1_1.below q4 x1_1.lt
      have x4_0 : Blk w4 (w3.heap.size) 48 #[.bool b3, .slice A3 n3 c3] := (blkAt _ _ _ (by simp)).below hb4 (by simp)
      have bw4 : Below w.heap.size w w4 := bw3.trans (q4.mono bw3.size)
      have lw4 : w3.heap.size + 1 ≤ w4.heap.size := by have := hb4.size; simp at this; omega
      clear hb4 q4 bw3
      go_wp2_with fail
      have p5 : Kp w4 (w4.alloc (.cells #[.bool b4, .slice A4 n4 c4] 48)) := ((Kp.refl w4).alloc (.cells #[.bool b4, .slice A4 n4 c4] 48))
      have bw5 : Below w.heap.size w (w4.alloc (.cells #[.bool b4, .slice A4 n4 c4] 48)) := (bw4.alloc (by first | omega | (simp <;> omega)) (.cells #[.bool b4, .slice A4 n4 c4] 48))
      have x5_0 : Blk (w4.alloc (.cells #[.bool b4, .slice A4 n4 c4] 48)) (w4.heap.size) 48 #[.bool b4, .slice A4 n4 c4] := (blkAt _ _ _ (by simp))
      replace x1_0 : Blk (w4.alloc (.cells #[.bool b4, .slice A4 n4 c4] 48)) (w.heap.size) 48 #[.bool b, .slice A n c] := (x1_0.alloc (.cells #[.bool b4, .slice A4 n4 c4] 48))
      replace x1_1 : Blk (w4.alloc (.cells #[.bool b4, .slice A4 n4 c4] 48)) (w.heap.size + 1) 48 #[.bool b, .slice A n c] := (x1_1.alloc (.cells #[.bool b4, .slice A4 n4 c4] 48))
      replace x4_0 : Blk (w4.alloc (.cells #[.bool b4, .slice A4 n4 c4] 48)) (w3.heap.size) 48 #[.bool b3, .slice A3 n3 c3] := (x4_0.alloc (.cells #[.bool b4, .slice A4 n4 c4] 48))
      have lw5 : w4.heap.size + 1 ≤ (w4.alloc (.cells #[.bool b4, .slice A4 n4 c4] 48)).heap.size := by simp
      generalize hE5 : (w4.alloc (.cells #[.bool b4, .slice A4 n4 c4] 48)) = w5 at p5 bw5 lw5 x5_0 x1_0 x1_1 x4_0 ⊢
      clear hE5
      replace H := H.keep p5
      replace h3 := h3.keep p5
      replace h4 := h4.keep p5
      clear bw4
      obtain ⟨cx1_0_0, cx1_0_1⟩ := x1_0.c2
      obtain ⟨lx1_0_0, lx1_0_1, lx1_0_2, lx1_0_3⟩ := lts0 x1_0.lt
      obtain ⟨lx1_1_0, lx1_1_1, lx1_1_2, lx1_1_3⟩ := lts1 x1_1.lt
      obtain ⟨cx4_0_0, cx4_0_1⟩ := x4_0.c2
      obtain ⟨lx4_0_0, lx4_0_1, lx4_0_2, lx4_0_3⟩ := lts0 x4_0.lt
      obtain ⟨cx5_0_0, cx5_0_1⟩ := x5_0.c2
      obtain ⟨lx5_0_0, lx5_0_1, lx5_0_2, lx5_0_3⟩ := lts0 x5_0.lt
      go_region_held3 (fun w' => Sees w5.heap.size w5 w') (first | with_reducible exact Sees.of (Nat.le_refl _) (by assumption) | with_reducible exact Sees.of (Nat.le_refl _) (brefl _).drew | exact Sees.of (Nat.le_refl _) (below_drewN (brefl _) 1) | exact Sees.of (Nat.le_refl _) (below_drewN (by assumption) _))
        (first
          | (go_at_call 25; (with_reducible refine (i_text_l _ b A n c (z) (30) ?_ T ?_ ?_ ?_).mono ?_); (exact H); (first | omega | decide | assumption); (first | exact htab.belw bw5 | exact (htab.belw bw5).belw (below_drewN (brefl _) 1) | exact (htab.belw bw5).belw (brefl _).drew | fail); (exact HT.out); rintro e w6 ⟨rfl, hb6⟩; replace hb6 := bnext (below_drewN (brefl _) 1) hb6; have q6 : Below w5.heap.size w5 w6 := bnext (brefl w5) hb6; replace H := H.belw hb6; replace h3 := h3.belw hb6; replace h4 := h4.belw hb6)
          | (go_at_call 26; (with_reducible refine (r01_text_l _ b A n c (z) (30) ?_ T ?_ ?_).mono ?_); (exact H); (first | omega | decide | assumption); (exact HT.out); rintro e w7 ⟨rfl, hb7⟩; have q7 : Below w5.heap.size w5 w7 := bnext q6 hb7; replace H := H.belw hb7; replace h3 := h3.belw hb7; replace h4 := h4.belw hb7)
          | (go_at_call 13; (with_reducible refine (b_num_v _ x).mono ?_); rintro e w8 ⟨rfl, hb8⟩; have q8 : Below w5.heap.size w5 w8 := bnext q7 hb8; replace H := H.belw hb8; replace h3 := h3.belw hb8; replace h4 := h4.belw hb8)
          | (go_at_call 27; (with_reducible refine (s_same _ b3 A3 n3 c3 (u) (65536) ?_ b4 A4 n4 c4 (u) (65536) ?_  ?_ ?_).mono ?_); (exact h3); (exact h4); (exact rfl); (first | omega | decide | assumption); rintro e w9 ⟨rfl, hb9⟩; have q9 : Below w5.heap.size w5 w9 := bnext q8 hb9; replace H := H.belw hb9; replace h3 := h3.belw hb9; replace h4 := h4.belw hb9))
      have bw9 : Below w.heap.size w w9 := bw5.trans (q9.mono bw5.size)
      clear cx1_0_0 cx1_0_1 lx1_0_0 lx1_0_1 lx1_0_2 lx1_0_3 lx1_1_0 lx1_1_1 lx1_1_2 lx1_1_3 cx4_0_0 cx4_0_1 lx4_0_0 lx4_0_1 lx4_0_2 lx4_0_3 cx5_0_0 cx5_0_1 lx5_0_0 lx5_0_1 lx5_0_2 lx5_0_3
      replace x1_0 := x1_0.below q9 x1_0.lt
      replace x1_1 := x1_1.below q9 x1_1.lt
      replace x4_0 := x4_0.below q9 x4_0.lt
      replace x5_0 := x5_0.below q9 x5_0.lt
      have lw9 : w5.heap.size ≤ w9.heap.size := q9.size
      go_wp2_with fail
      go_ret
      exact retB rfl bw9
    · go_wp2_with fail
      (with_reducible refine (l_awake _  ?_).mono ?_); (exact htab.belw bw1); rintro e w2 ⟨rfl, hb2⟩
      have q2 : Below w1.heap.size w1 w2 := hb2
      replace H := H.belw q2
      replace x1_0 := x1_0.below q2 x1_0.lt
      replace x1_1 := x1_1.below q2 x1_1.lt
      have bw2 : Below w.heap.size w w2 := bw1.trans (q2.mono bw1.size)
      have lw2 : w1.heap.size ≤ w2.heap.size := q2.size
      clear hb2 q2 bw1
      go_wp2_with fail
      go_ret
      exact retB rfl bw2
    · have hc2 : 400 < s.length := by omega
      go_wp2_with fail
      (with_reducible refine (l_awake _  ?_).mono ?_); (exact htab.belw bw1); rintro e w2 ⟨rfl, hb2⟩
      have q2 : Below w1.heap.size w1 w2 := hb2
      replace H := H.belw q2
      replace x1_0 := x1_0.below q2 x1_0.lt
      replace x1_1 := x1_1.below q2 x1_1.lt
      have bw2 : Below w.heap.size w w2 := bw1.trans (q2.mono bw1.size)
      have lw2 : w1.heap.size ≤ w2.heap.size := q2.size
      clear hb2 q2 bw1
      go_wp2_with fail
      (with_reducible refine (i_parse_o _ (s) x u ?_).mono ?_); (exact HP.out); rintro e w3 ⟨b3, A3, n3, c3, rfl, h3, hb3⟩
      have q3 : Below w2.heap.size w2 w3 := hb3
      replace H := H.belw q3
      replace x1_0 := x1_0.below q3 x1_0.lt
      replace x1_1 := x1_1.below q3 x1_1.lt
      have bw3 : Below w.heap.size w w3 := bw2.trans (q3.mono bw2.size)
      have lw3 : w2.heap.size ≤ w3.heap.size := q3.size
      clear hb3 q3 bw2
      go_wp2_with fail
      (with_reducible refine (r01_parse_o _ (s) x u ?_).mono ?_); (exact HP.out); rintro e w4 ⟨b4, A4, n4, c4, rfl, h4, hb4⟩
      have q4 : Below w3.heap.size w3 w4 := ((Below.refl _ _).alloc (Nat.le_refl _) _).trans (hb4.mono (by simp))
      replace H := H.belw q4
      replace h3 := h3.belw q4
      replace x1_0 := x1_0.below q4 x1_0.lt
      replace x1_1 := x1_1.below q4 x1_1.lt
      have x4_0 : Blk w4 (w3.heap.size) 48 #[.bool b3, .slice A3 n3 c3] := (blkAt _ _ _ (by simp)).below hb4 (by simp)
      have bw4 : Below w.heap.size w w4 := bw3.trans (q4.mono bw3.size)
      have lw4 : w3.heap.size + 1 ≤ w4.heap.size := by have := hb4.size; simp at this; omega
      clear hb4 q4 bw3
      go_wp2_with fail
      have p5 : Kp w4 (w4.alloc (.cells #[.bool b4, .slice A4 n4 c4] 48)) := ((Kp.refl w4).alloc (.cells #[.bool b4, .slice A4 n4 c4] 48))
      have bw5 : Below w.heap.size w (w4.alloc (.cells #[.bool b4, .slice A4 n4 c4] 48)) := (bw4.alloc (by first | omega | (simp <;> omega)) (.cells #[.bool b4, .slice A4 n4 c4] 48))
      have x5_0 : Blk (w4.alloc (.cells #[.bool b4, .slice A4 n4 c4] 48)) (w4.heap.size) 48 #[.bool b4, .slice A4 n4 c4] := (blkAt _ _ _ (by simp))
      replace x1_0 : Blk (w4.alloc (.cells #[.bool b4, .slice A4 n4 c4] 48)) (w.heap.size) 48 #[.bool b, .slice A n c] := (x1_0.alloc (.cells #[.bool b4, .slice A4 n4 c4] 48))
      replace x1_1 : Blk (w4.alloc (.cells #[.bool b4, .slice A4 n4 c4] 48)) (w.heap.size + 1) 48 #[.bool b, .slice A n c] := (x1_1.alloc (.cells #[.bool b4, .slice A4 n4 c4] 48))
      replace x4_0 : Blk (w4.alloc (.cells #[.bool b4, .slice A4 n4 c4] 48)) (w3.heap.size) 48 #[.bool b3, .slice A3 n3 c3] := (x4_0.alloc (.cells #[.bool b4, .slice A4 n4 c4] 48))
      have lw5 : w4.heap.size + 1 ≤ (w4.alloc (.cells #[.bool b4, .slice A4 n4 c4] 48)).heap.size := by simp
      generalize hE5 : (w4.alloc (.cells #[.bool b4, .slice A4 n4 c4] 48)) = w5 at p5 bw5 lw5 x5_0 x1_0 x1_1 x4_0 ⊢
      clear hE5
      replace H := H.keep p5
      replace h3 := h3.keep p5
      replace h4 := h4.keep p5
      clear bw4
      obtain ⟨cx1_0_0, cx1_0_1⟩ := x1_0.c2
      obtain ⟨lx1_0_0, lx1_0_1, lx1_0_2, lx1_0_3⟩ := lts0 x1_0.lt
      obtain ⟨lx1_1_0, lx1_1_1, lx1_1_2, lx1_1_3⟩ := lts1 x1_1.lt
      obtain ⟨cx4_0_0, cx4_0_1⟩ := x4_0.c2
      obtain ⟨lx4_0_0, lx4_0_1, lx4_0_2, lx4_0_3⟩ := lts0 x4_0.lt
      obtain ⟨cx5_0_0, cx5_0_1⟩ := x5_0.c2
      obtain ⟨lx5_0_0, lx5_0_1, lx5_0_2, lx5_0_3⟩ := lts0 x5_0.lt
      go_region_held3 (fun w' => Sees w5.heap.size w5 w') (first | with_reducible exact Sees.of (Nat.le_refl _) (by assumption) | with_reducible exact Sees.of (Nat.le_refl _) (brefl _).drew | exact Sees.of (Nat.le_refl _) (below_drewN (brefl _) 1) | exact Sees.of (Nat.le_refl _) (below_drewN (by assumption) _))
        (first
          | (go_at_call 25; (with_reducible refine (i_text_l _ b A n c (z) (30) ?_ T ?_ ?_ ?_).mono ?_); (exact H); (first | omega | decide | assumption); (first | exact htab.belw bw5 | exact (htab.belw bw5).belw (below_drewN (brefl _) 1) | exact (htab.belw bw5).belw (brefl _).drew | fail); (exact HT.out); rintro e w6 ⟨rfl, hb6⟩; replace hb6 := bnext (below_drewN (brefl _) 1) hb6; have q6 : Below w5.heap.size w5 w6 := bnext (brefl w5) hb6; replace H := H.belw hb6; replace h3 := h3.belw hb6; replace h4 := h4.belw hb6)
          | (go_at_call 26; (with_reducible refine (r01_text_l _ b A n c (z) (30) ?_ T ?_ ?_).mono ?_); (exact H); (first | omega | decide | assumption); (exact HT.out); rintro e w7 ⟨rfl, hb7⟩; have q7 : Below w5.heap.size w5 w7 := bnext q6 hb7; replace H := H.belw hb7; replace h3 := h3.belw hb7; replace h4 := h4.belw hb7)
          | (go_at_call 13; (with_reducible refine (b_num_v _ x).mono ?_); rintro e w8 ⟨rfl, hb8⟩; have q8 : Below w5.heap.size w5 w8 := bnext q7 hb8; replace H := H.belw hb8; replace h3 := h3.belw hb8; replace h4 := h4.belw hb8)
          | (go_at_call 27; (with_reducible refine (s_same _ b3 A3 n3 c3 (u) (65536) ?_ b4 A4 n4 c4 (u) (65536) ?_  ?_ ?_).mono ?_); (exact h3); (exact h4); (exact rfl); (first | omega | decide | assumption); rintro e w9 ⟨rfl, hb9⟩; have q9 : Below w5.heap.size w5 w9 := bnext q8 hb9; replace H := H.belw hb9; replace h3 := h3.belw hb9; replace h4 := h4.belw hb9))
      have bw9 : Below w.heap.size w w9 := bw5.trans (q9.mono bw5.size)
      clear cx1_0_0 cx1_0_1 lx1_0_0 lx1_0_1 lx1_0_2 lx1_0_3 lx1_1_0 lx1_1_1 lx1_1_2 lx1_1_3 cx4_0_0 cx4_0_1 lx4_0_0 lx4_0_1 lx4_0_2 lx4_0_3 cx5_0_0 cx5_0_1 lx5_0_0 lx5_0_1 lx5_0_2 lx5_0_3
      replace x1_0 := x1_0.below q9 x1_0.lt
      replace x1_1 := x1_1.below q9 x1_1.lt
      replace x4_0 := x4_0.below q9 x4_0.lt
      replace x5_0 := x5_0.below q9 x5_0.lt
      have lw9 : w5.heap.size ≤ w9.heap.size := q9.size
      go_wp2_with fail
      go_ret
      exact retB rfl bw9
    · have hc2 : 400 < s.length := by omega
      have hc3 : 65536 < s.length := by omega
      go_wp2_with fail
      (with_reducible refine (l_awake _  ?_).mono ?_); (exact htab.belw bw1); rintro e w2 ⟨rfl, hb2⟩
      have q2 : Below w1.heap.size w1 w2 := hb2
      replace H := H.belw q2
      replace x1_0 := x1_0.below q2 x1_0.lt
      replace x1_1 := x1_1.below q2 x1_1.lt
      have bw2 : Below w.heap.size w w2 := bw1.trans (q2.mono bw1.size)
      have lw2 : w1.heap.size ≤ w2.heap.size := q2.size
      clear hb2 q2 bw1
      go_wp2_with fail
      go_ret
      exact retB rfl bw2
end Go.Proofs.YtpnnfbodphflpaaGreatDoor

/- The arguments of a row opened: integers, fractions and turns that came in. -/
namespace Go.Proofs.YtpnnfbodphflpaaGreatDoor
open Go Go.RowKit Bn Go.ChangeShapes Go.WideShapes

/-- All arguments read behind the call as they did. -/
theorem args_again {H : Type} {enc : TypeId × Value → H} {W : World} {P : Program} (hl : laidOutB P = true) {W' : World} (hb : Below W.heap.size W W') : ∀ {ts : List TypeId} {vs : List Value} {ds : List (DataW H)} {ps : List MemPlace}, (ts.all fun t => P.readableRec t && decide (t < P.types.size)) = true →
    DataW.TrodAll enc P W 0 (fun _ => true) true ts vs ds ps → DataW.TrodAll enc P W' 0 (fun b => decide (b < W.heap.size)) true ts vs ds ps
  | [], [], [], _, _, h => h
  | _ :: _, _ :: _, _ :: _, _, hr, h => by
    have hlt := h.lt
    obtain ⟨p, q, h1, h2, e⟩ := h
    rw [List.all_cons, Bool.and_eq_true, Bool.and_eq_true, decide_eq_true_eq] at hr
    exact ⟨p, q, Below.trod hl hr.1.1 hr.1.2 h1 hb (fun x hx => hlt x (by rw [e]; exact List.mem_append_left _ hx)), args_again hl hb hr.2 h2, e⟩
  | [], [], _ :: _, _, _, h => h.elim
  | [], _ :: _, _, _, _, h => h.elim
  | _ :: _, [], _, _, _, h => h.elim
  | _ :: _, _ :: _, [], _, _, h => h.elim
/-- A law that returns true and turns nothing that was there. -/
theorem law_post {H : Type} {enc : TypeId × Value → H} {W : World} {P : Program} {B : TypeId} {f : Func} {s : ChangeSpec} {W' : World} {args : Array Value} {ds : List (DataW H)} {before : List MemPlace} (hl : laidOutB P = true) (hB : P.underlying B = some .bool)
    (hW : DataW.Whole enc P f.params.toList s.vars false W args.toList ds [] before) (hv : s.vars = []) (hr : f.resultTypes = #[B]) (hp : (f.params.toList.all fun t => P.readableRec t && decide (t < P.types.size)) = true)
    (hres : (s.fn H (ds ++ [])).results = [.lit (.bool true)]) (hargs : (s.fn H (ds ++ [])).args = ds) (hvars : (s.fn H (ds ++ [])).vars = []) (hb : Below W.heap.size W W') :
    s.post enc P f false true false false W args (.bool true) W' := by
  have hW' := hW
  obtain ⟨p, q, hA, hV, rfl, _, _⟩ := hW
  have hV' := hV
  rw [hv] at hV'
  obtain ⟨_, rfl⟩ := trodVars_none hV'
  refine ⟨ds, [], _, [], p, [], hW', ?_, ?_, ?_, hb.frame _, fun h => by cases h⟩
  · rw [hr, hres]
    exact trodAll_mk1 (shut_bool hB _)
  · rw [hargs]
    exact args_again hl hb hp hA
  · rw [hv, hvars]
    rfl
/-- Nothing in a type's layout fits. -/
def bareB (p : Program) (fits : TypeId → Bool) : Nat → TypeId → Bool
  | 0, _ => true
  | d + 1, e => !fits e && match p.underlying e with
    | some (.struct fs) => fs.all fun f => bareB p fits d f.type
    | some (.array _ e') => bareB p fits d e'
    | _ => true
theorem rowAt_bare {p : Program} {fits : TypeId → Bool} : ∀ (d : Nat) (e : TypeId) (count off n : Nat), bareB p fits d e = true → rowAt p fits d e count off n = false := by
  intro d
  induction d with
  | zero => intro e count off n _; rfl
  | succ d ih =>
    intro e count off n h
    unfold bareB at h
    rw [Bool.and_eq_true] at h
    obtain ⟨h1, h2⟩ := h
    have h1 : fits e = false := by simpa using h1
    unfold rowAt
    dsimp only
    split
    · rfl
    · rw [h1, Bool.and_false, Bool.false_or]
      split at h2
      · rename_i fs hu
        rw [hu]
        dsimp only
        have : (fs.any fun f => decide (f.offset ≤ off % p.cellsOf e) && decide (off % p.cellsOf e < f.offset + p.cellsOf f.type) && rowAt p fits d f.type 1 (off % p.cellsOf e - f.offset) n) = false := by
          rw [Array.any_eq_false]
          intro i hi
          have := Array.all_eq_true.1 h2 i hi
          rw [ih _ _ _ _ this]; simp
        rw [this]; simp
      · rename_i m e' hu
        rw [hu]
        dsimp only
        rw [ih _ _ _ _ h2]; simp
      · rename_i hn1 hn2
        split
        · rename_i fs hu; exact absurd hu (hn1 _)
        · rename_i m e' hu; exact absurd hu (hn2 _ _)
        · simp
theorem lies_u32 {e : TypeId} {count off n : Nat} (h : bareB Tryz.prog (sameLayout Tryz.prog Tryz.prog.depth · 84) Tryz.prog.depth e = true) : liesAt Tryz.prog Tryz.prog.depth e count off 84 n = false := by
  have : ∀ d, liesAt Tryz.prog d e count off 84 n = false := by
    intro d
    cases d with
    | zero => rfl
    | succ d =>
      unfold liesAt
      rw [rowAt_bare _ _ _ _ _ h, Tryz.underlying84]
      rfl
  exact this _
theorem bare_rat : bareB Tryz.prog (sameLayout Tryz.prog Tryz.prog.depth · 84) Tryz.prog.depth 24 = true := by kernel_rfl
theorem bare_turn : bareB Tryz.prog (sameLayout Tryz.prog Tryz.prog.depth · 84) Tryz.prog.depth 26 = true := by kernel_rfl
theorem bare_whole : bareB Tryz.prog (sameLayout Tryz.prog Tryz.prog.depth · 84) Tryz.prog.depth 48 = true := by kernel_rfl
theorem kt_of_lies {e : TypeId} {count off n : Nat} (h : liesAt Tryz.prog Tryz.prog.depth e count off 84 n = true) : KT e = true := by
  unfold KT
  by_cases h1 : e = 48
  · subst h1; rw [lies_u32 bare_whole] at h; cases h
  by_cases h2 : e = 24
  · subst h2; rw [lies_u32 bare_rat] at h; cases h
  by_cases h3 : e = 26
  · subst h3; rw [lies_u32 bare_turn] at h; cases h
  simp [h1
   , h2
   , h3
    ]
section
variable {H : Type} {enc : TypeId × Value → H} {W : World} {base : Nat}
set_option maxRecDepth 100000 in
theorem words_open {v : Value} {fuel : Nat} {x : DataW H × List MemPlace} (hok : Cell.okWide Tryz.prog W .any base 22 v) (ht : DataW.trod enc Tryz.prog W 0 (fun _ => true) true fuel 22 [v] = some x) :
    ∃ A n c l, v = .slice A n c ∧ Wd W A n c l := by
  rcases open_ints Tryz.underlying22 Tryz.underlying84 (by kernel_rfl) ht with ⟨hv, _⟩ | ⟨a, len, cap, zs, hv, _, hl, _, hz, _, hc, hwf⟩
  · injection hv with hv _
    exact ⟨none, 0, 0, [], hv, Wd.nil_ W⟩
  · injection hv with hv _
    subst hv
    have hz : zs.length = cap := by simpa using hz
    have h0 : ∀ i, i < zs.length → 0 ≤ zs.getD i 0 ∧ zs.getD i 0 ≤ 4294967295 := by
      intro i hi
      have h1 := hwf (zs.getD i 0) (by rw [List.getD_eq_getElem?_getD, List.getElem?_eq_getElem hi]; simp)
      simpa [Lit.wf, IntKind.min, IntKind.max, IntKind.signed, IntKind.bits] using h1
    refine ⟨some a, len, cap, (zs.take len).map Int.toNat, rfl, ?_, ?_, hl, fun hn => ?_⟩
    · intro y hy
      obtain ⟨z, hz1, rfl⟩ := List.mem_map.1 hy
      obtain ⟨i, hi, he⟩ := List.getElem_of_mem hz1
      have hi2 : i < zs.length := by rw [List.length_take] at hi; omega
      have h1 := h0 i hi2
      rw [List.getD_eq_getElem?_getD, List.getElem?_eq_getElem hi2] at h1
      rw [List.getElem_take] at he
      simp only [Option.getD_some] at h1
      rw [he] at h1
      omega
    · rw [List.length_map, List.length_take]; omega
    · unfold Cell.okWide at hok
      rw [Tryz.underlying22] at hok
      unfold Cell.ok at hok
      rw [Tryz.underlying22] at hok
      obtain ⟨_, _, _, hs, row, cells, hsh, hli⟩ := hok
      unfold World.shape? at hsh
      split at hsh
      · rename_i cur el fr hb
        injection hsh with hsh; injection hsh with e1 e2
        subst e1
        obtain ⟨g, o, sp⟩ := a
        dsimp only at hs
        subst hs
        have hr : RowW W g cur fr := ⟨el, kt_of_lies hli, hb⟩
        refine ⟨g, o, cur, fr, rfl, hr, fun i hi => ?_⟩
        have h1 := hc i (by omega)
        have h2 := h0 i (by omega)
        have e3 : (⟨g, o, none⟩ : Addr).add i = ⟨g, o + i, none⟩ := by unfold Addr.add; by_cases hi0 : i = 0 <;> simp [hi0]
        rw [e3, hr.cell] at h1
        rw [h1]
        have e4 : wd ((zs.take len).map Int.toNat) i = (zs.getD i 0).toNat := by
          unfold wd
          rw [List.getD_eq_getElem?_getD, List.getElem?_map, List.getElem?_take, if_pos hi, List.getD_eq_getElem?_getD]
          rcases zs[i]? with _ | z <;> rfl
        rw [e4, Int.toNat_of_nonneg h2.1]
      · cases hsh
set_option maxRecDepth 100000 in
theorem rat_open {v0 v1 v2 : Value} {fuel : Nat} {x : DataW H × List MemPlace} (o1 : Cell.okWide Tryz.prog W .any base 22 v1) (o2 : Cell.okWide Tryz.prog W .any base 22 v2)
    (ht : DataW.trod enc Tryz.prog W 0 (fun _ => true) true fuel 24 [v0, v1, v2] = some x) :
    ∃ b A n c D m e r k, v0 = .bool b ∧ v1 = .slice A n c ∧ v2 = .slice D m e ∧ QD W b A n c D m e r k := by
  obtain ⟨xs, n, _, _, _, hxl, hf⟩ := DataW.trod_struct Tryz.underlying24 ht
  have f0 : DataW.trod enc Tryz.prog W 0 (fun _ => true) true n 4 (List.take (Tryz.prog.cellsOf 4) [v0, v1, v2]) = xs[0]? := hf 0 _ rfl
  have f1 : DataW.trod enc Tryz.prog W 0 (fun _ => true) true n 22 (List.take (Tryz.prog.cellsOf 22) [v1, v2]) = xs[1]? := hf 1 _ rfl
  have f2 : DataW.trod enc Tryz.prog W 0 (fun _ => true) true n 22 (List.take (Tryz.prog.cellsOf 22) [v2]) = xs[2]? := hf 2 _ rfl
  have c1 : Tryz.prog.cellsOf 22 = 1 := by kernel_rfl
  have c0 : Tryz.prog.cellsOf 4 = 1 := by kernel_rfl
  try dsimp only at f0 f1 f2
  rw [c0] at f0
  rw [c1] at f1 f2
  have hx0 : xs.length = 3 := hxl
  rw [List.getElem?_eq_getElem (show 0 < xs.length by omega)] at f0
  rw [List.getElem?_eq_getElem (show 1 < xs.length by omega)] at f1
  rw [List.getElem?_eq_getElem (show 2 < xs.length by omega)] at f2
  obtain ⟨b, hb, _⟩ := DataW.trod_bool Tryz.underlying4 f0
  obtain ⟨A, n1, cc, l, rfl, h1⟩ := words_open o1 f1
  obtain ⟨D, m, e, l', rfl, h2⟩ := words_open o2 f2
  injection hb with hb _
  exact ⟨b, A, n1, cc, D, m, e, ⟨b, l, l'⟩, max n1 m, hb, rfl, rfl, rfl, h1, h2, Nat.le_max_left _ _, Nat.le_max_right _ _⟩
set_option maxRecDepth 100000 in
/-- The cells' types of a struct that came in. -/
theorem cells_ok {t : TypeId} {fs : Array Field} {ts : List TypeId} {v : Value} (hu : Tryz.prog.underlying t = some (.struct fs)) (hts : Tryz.prog.cellTypes Tryz.prog.depth t = some ts) (hn : Tryz.prog.cellsOf t = ts.length) (h : Value.okWide Tryz.prog W .any base t v) :
    ∃ cs : Array Value, v = .agg cs ∧ cs.size = ts.length ∧ ∀ (i : Nat) (v : Value) (u : TypeId), cs[i]? = some v → ts[i]? = some u → Cell.okWide Tryz.prog W .any base u v := by
  unfold Value.okWide at h
  rw [hu] at h
  obtain ⟨cs, rfl, hsz, ts', hts', _, hc⟩ := h
  rw [hts] at hts'
  injection hts' with e
  subst e
  rw [hn] at hsz
  refine ⟨cs, rfl, hsz, fun i v u hi hu => ?_⟩
  obtain ⟨u', h1, h2⟩ := hc i v hi
  have hlt : i < ts.length := by rw [← hsz]; exact (Array.getElem?_eq_some_iff.1 hi).1
  rw [Nat.mod_eq_of_lt hlt, hu] at h1
  injection h1 with h1
  subst h1
  exact h2
set_option maxRecDepth 100000 in
theorem turn_open {v : Value} {d : DataW H} {p : List MemPlace} (hok : Value.okWide Tryz.prog W .any base 26 v) (h : DataW.Trod enc Tryz.prog W 0 (fun _ => true) true 26 v d p) :
    ∃ b A n c D m e r k y, v = .agg #[.bool b, .slice A n c, .slice D m e, .bool y] ∧ QD W b A n c D m e r k := by
  obtain ⟨cs, rfl, hsz, hc⟩ := cells_ok (ts := [4, 22, 22, 4]) Tryz.underlying26 (by kernel_rfl) (by kernel_rfl) hok
  obtain ⟨fuel, h⟩ := h
  obtain ⟨l⟩ := cs
  match l, hsz with
  | [v0, v1, v2, v3], _ =>
    obtain ⟨xs, n, _, _, _, hxl, hf⟩ := DataW.trod_struct Tryz.underlying26 h
    have f0 : DataW.trod enc Tryz.prog W 0 (fun _ => true) true n 24 (List.take (Tryz.prog.cellsOf 24) [v0, v1, v2, v3]) = xs[0]? := hf 0 _ rfl
    have f1 : DataW.trod enc Tryz.prog W 0 (fun _ => true) true n 4 (List.take (Tryz.prog.cellsOf 4) [v3]) = xs[1]? := hf 1 _ rfl
    have c0 : Tryz.prog.cellsOf 24 = 3 := by kernel_rfl
    have c1 : Tryz.prog.cellsOf 4 = 1 := by kernel_rfl
    try dsimp only at f0 f1
    rw [c0] at f0
    rw [c1] at f1
    have hx0 : xs.length = 2 := hxl
    rw [List.getElem?_eq_getElem (show 0 < xs.length by omega)] at f0
    rw [List.getElem?_eq_getElem (show 1 < xs.length by omega)] at f1
    obtain ⟨y, hy, _⟩ := DataW.trod_bool Tryz.underlying4 f1
    injection hy with hy _
    have hy : v3 = .bool y := hy
    obtain ⟨b, A, n1, cc, D, m, e, r, k, rfl, rfl, rfl, hq⟩ := rat_open (hc 1 v1 _ rfl rfl) (hc 2 v2 _ rfl rfl) f0
    subst hy
    exact ⟨b, A, n1, cc, D, m, e, r, k, y, rfl, hq⟩
set_option maxRecDepth 100000 in
theorem whole_open {v : Value} {d : DataW H} {p : List MemPlace} (hok : Value.okWide Tryz.prog W .any base 48 v) (h : DataW.Trod enc Tryz.prog W 0 (fun _ => true) true 48 v d p) :
    ∃ b A n c z k, v = .agg #[.bool b, .slice A n c] ∧ IZ W b A n c z k := by
  obtain ⟨cs, rfl, hsz, hc⟩ := cells_ok (ts := [4, 22]) Tryz.underlying48 (by kernel_rfl) (by kernel_rfl) hok
  obtain ⟨fuel, ht⟩ := h
  match cs, hsz with
  | ⟨[v0, v1]⟩, _ =>
    have o1 : Cell.okWide Tryz.prog W .any base 22 v1 := hc 1 v1 _ rfl rfl
    have ht' : DataW.trod enc Tryz.prog W 0 (fun _ => true) true fuel 48 [v0, v1] = some (d, p) := ht
    obtain ⟨xs, n, _, _, _, hxl, hf⟩ := DataW.trod_struct Tryz.underlying48 ht'
    have f0 : DataW.trod enc Tryz.prog W 0 (fun _ => true) true n 4 (List.take (Tryz.prog.cellsOf 4) [v0, v1]) = xs[0]? := hf 0 _ rfl
    have f1 : DataW.trod enc Tryz.prog W 0 (fun _ => true) true n 22 (List.take (Tryz.prog.cellsOf 22) [v1]) = xs[1]? := hf 1 _ rfl
    have c1 : Tryz.prog.cellsOf 22 = 1 := by kernel_rfl
    have c0 : Tryz.prog.cellsOf 4 = 1 := by kernel_rfl
    try dsimp only at f0 f1
    rw [c0] at f0
    rw [c1] at f1
    have hx0 : xs.length = 2 := hxl
    rw [List.getElem?_eq_getElem (show 0 < xs.length by omega)] at f0
    rw [List.getElem?_eq_getElem (show 1 < xs.length by omega)] at f1
    obtain ⟨b, hb, _⟩ := DataW.trod_bool Tryz.underlying4 f0
    obtain ⟨A, n1, cc, l, rfl, h1⟩ := words_open o1 f1
    injection hb with hb _
    subst hb
    exact ⟨b, A, n1, cc, _, n1, rfl, l, h1, rfl, Nat.le_refl _⟩
end
theorem g_pow : Tryz.prog.globalNamed "internal/strconv.uint64pow10" = some 4 := by kernel_rfl
theorem ty_pow : (Tryz.prog.globals[4]?).map (·.type) = some 191 := by kernel_rfl
theorem cells_pow : Tryz.prog.cellsOf 191 = 20 := by kernel_rfl
theorem cells_u64 : Tryz.prog.cellsOf 99 = 1 := by kernel_rfl
theorem pow_data {H : Type} : (Rows.laid_internal_strconv_uint64pow10 : DataW H) = Lib.tabData .u64 Lib.pow10Tab := by kernel_rfl
/-- What the row's list gives: the powers of ten. -/
theorem tab_of_laid {rest : List (String × DataW Unit)} {W : World} (h : laidMet Tryz.prog (("math/bits.deBruijn32tab", Rows.laid_math_bits_deBruijn32tab) :: ("math/bits.deBruijn64tab", Rows.laid_math_bits_deBruijn64tab) :: ("internal/strconv.uint64pow10", Rows.laid_internal_strconv_uint64pow10) :: rest) W) : Tab W := by
  obtain ⟨ps, ⟨_, _, _, _, _, _, _, _, _, _, ⟨_, _, _, _, _, _, _, _, _, _, ⟨g, t, cs, f, p, q, hg, ht, hv, hd, _, _⟩, _⟩, _⟩, _, _⟩ := h
  obtain rfl := Option.some.inj (g_pow.symm.trans hg)
  obtain rfl := Option.some.inj (ty_pow.symm.trans ht)
  rw [pow_data] at hd
  unfold Tab Lib.TabIs
  rw [hv, ← Lib.cells_of_tab Tryz.underlying191 Tryz.underlying99 cells_u64 cells_pow hd]
/-- So many blocks has the settled world. -/
noncomputable def low : Nat := (World.holding Tryz.prog default ⟨#[], #[], []⟩).heap.size
/-- A world in which the listed variables lie. -/
noncomputable def laidWorld (os : Os) : World :=
  let w0 := World.holding Tryz.prog os ⟨#[.cells #[.string ⟨#[118, 97, 108, 117, 101, 32, 111, 117, 116, 32, 111, 102, 32, 114, 97, 110, 103, 101]⟩] 189, .cells #[.string ⟨#[105, 110, 118, 97, 108, 105, 100, 32, 115, 121, 110, 116, 97, 120]⟩] 189], #[], []⟩
  { w0 with heap := (((((((w0.heap.modify 4 fun
      | .cells _ t frozen => .cells (#[.int .u64 1, .int .u64 10, .int .u64 100, .int .u64 1000, .int .u64 10000, .int .u64 100000, .int .u64 1000000, .int .u64 10000000, .int .u64 100000000, .int .u64 1000000000, .int .u64 10000000000, .int .u64 100000000000, .int .u64 1000000000000, .int .u64 10000000000000, .int .u64 100000000000000, .int .u64 1000000000000000, .int .u64 10000000000000000, .int .u64 100000000000000000, .int .u64 1000000000000000000, .int .u64 10000000000000000000]) t frozen
      | o => o).modify 6 fun
      | .cells _ t frozen => .cells (#[.int .u8 0, .int .u8 1, .int .u8 28, .int .u8 2, .int .u8 29, .int .u8 14, .int .u8 24, .int .u8 3, .int .u8 30, .int .u8 22, .int .u8 20, .int .u8 15, .int .u8 25, .int .u8 17, .int .u8 4, .int .u8 8, .int .u8 31, .int .u8 27, .int .u8 13, .int .u8 23, .int .u8 21, .int .u8 19, .int .u8 16, .int .u8 7, .int .u8 26, .int .u8 12, .int .u8 18, .int .u8 6, .int .u8 11, .int .u8 5, .int .u8 10, .int .u8 9]) t frozen
      | o => o).modify 7 fun
      | .cells _ t frozen => .cells (#[.int .u8 0, .int .u8 1, .int .u8 56, .int .u8 2, .int .u8 57, .int .u8 49, .int .u8 28, .int .u8 3, .int .u8 61, .int .u8 58, .int .u8 42, .int .u8 50, .int .u8 38, .int .u8 29, .int .u8 17, .int .u8 4, .int .u8 62, .int .u8 47, .int .u8 59, .int .u8 36, .int .u8 45, .int .u8 43, .int .u8 51, .int .u8 22, .int .u8 53, .int .u8 39, .int .u8 33, .int .u8 30, .int .u8 24, .int .u8 18, .int .u8 12, .int .u8 5, .int .u8 63, .int .u8 55, .int .u8 48, .int .u8 27, .int .u8 60, .int .u8 41, .int .u8 37, .int .u8 16, .int .u8 46, .int .u8 35, .int .u8 44, .int .u8 21, .int .u8 52, .int .u8 32, .int .u8 23, .int .u8 11, .int .u8 54, .int .u8 26, .int .u8 40, .int .u8 15, .int .u8 34, .int .u8 20, .int .u8 31, .int .u8 10, .int .u8 25, .int .u8 14, .int .u8 19, .int .u8 9, .int .u8 13, .int .u8 8, .int .u8 7, .int .u8 6]) t frozen
      | o => o).modify 3 fun
      | .cells _ t frozen => .cells (#[.int .u8 128, .int .u8 191, .int .u8 160, .int .u8 191, .int .u8 128, .int .u8 159, .int .u8 144, .int .u8 191, .int .u8 128, .int .u8 143, .int .u8 0, .int .u8 0, .int .u8 0, .int .u8 0, .int .u8 0, .int .u8 0, .int .u8 0, .int .u8 0, .int .u8 0, .int .u8 0, .int .u8 0, .int .u8 0, .int .u8 0, .int .u8 0, .int .u8 0, .int .u8 0, .int .u8 0, .int .u8 0, .int .u8 0, .int .u8 0, .int .u8 0, .int .u8 0]) t frozen
      | o => o).modify 2 fun
      | .cells _ t frozen => .cells ((Go.Pinned.utf8FirstZ.map fun z : Nat => Value.int .u8 (z : Int)).toArray) t frozen
      | o => o).modify 1 fun
      | .cells _ t frozen => .cells (#[.iface 187 (.pointer (some ⟨low, 0, none⟩))]) t frozen
      | o => o).modify 0 fun
      | .cells _ t frozen => .cells (#[.iface 187 (.pointer (some ⟨low + 1, 0, none⟩))]) t frozen
      | o => o) }
theorem own_knob : ownKnob Tryz.prog.godebug = none := by kernel_rfl
theorem laid_out : laidOutB Tryz.prog = true := by kernel_rfl
end Go.Proofs.YtpnnfbodphflpaaGreatDoor
