/- Part P3: lemmas and walks that the claim rests on. No claim is made here. -/
import Derived.Deep.RegionHeld3
import Derived.Deep.DrawnRows
import Derived.BigQuiet
import Derived.Deep.DeepCutAuto
import Derived.Deep.AppendLies
import Derived.Test.YtpnnfbodphflpaaGreatDoorP2
set_option linter.unusedVariables false
/- Walks: the reference's Gcd. -/
namespace Go.Proofs.YtpnnfbodphflpaaGreatDoor
open Go Go.RowKit Bn
attribute [local go_sem ↓] Go.wp_at_zero Go.wp_at_succ
theorem gcd_len {w w' : World} {A : Option Addr} {n c : Nat} {l : List Nat} {A' : Option Addr} {n' c' : Nat} {l' : List Nat} {N : Nat} (h : Wd w A n c l) (h' : Wd w' A' n' c' l') (hn : n ≤ N) (hn' : n' ≤ N) : (digs (Nat.gcd (val l) (val l'))).length ≤ N := length_digs_le (gcd_lt (h.vlt hn) (h'.vlt hn'))
set_option maxHeartbeats 2000000 in
/-- linkworkref01.Gcd -/
theorem r_Gcd_C (w : World) (b : Bool) (A : Option Addr) (n c : Nat) (l : List Nat) (wa : Wd w A n c l) (hn : n ≤ 1099511627000) (b' : Bool) (A' : Option Addr) (n' c' : Nat) (l' : List Nat) (wb : Wd w A' n' c' l') (hn' : n' ≤ 1099511627000) :
    Calls Tryz.prog 91 #[.agg #[.bool b, .slice A n c], .agg #[.bool b', .slice A' n' c']] w (RetW w (wh (Nat.gcd (WD.z ⟨b, l⟩).natAbs (WD.z ⟨b', l'⟩).natAbs : Nat))) := by
  have HL := Lib.hid wa.2.1
  have HL' := Lib.hid wb.2.1
  rw [z_nat, z_nat]
  go_enter Tryz.func91, Tryz.ntmps91
  go_wp2_with fail
  have b0 : Below w.heap.size w (((w.alloc (.cells #[.bool b, .slice A n c] 48)).alloc (.cells #[.bool b', .slice A' n' c'] 48)).alloc (.cells #[.bool false, .slice none 0 0] 48)) := ((((Below.refl _ _).alloc (Nat.le_refl _) _).alloc (by simp) _).alloc (by simp; omega) _)
  generalize hW0 : (((w.alloc (.cells #[.bool b, .slice A n c] 48)).alloc (.cells #[.bool b', .slice A' n' c'] 48)).alloc (.cells #[.bool false, .slice none 0 0] 48)) = W0 at b0 ⊢
  have c00 : W0.cell? ⟨w.heap.size, 0, none⟩ = some (.bool b) := by subst hW0; simp [go_sem]
  have f00 : W0.frozen? ⟨w.heap.size, 0, none⟩ = false := by subst hW0; simp [go_sem]
  have c01 : W0.cell? ⟨w.heap.size, 1, none⟩ = some (.slice A n c) := by subst hW0; simp [go_sem]
  have f01 : W0.frozen? ⟨w.heap.size, 1, none⟩ = false := by subst hW0; simp [go_sem]
  have c10 : W0.cell? ⟨w.heap.size + 1, 0, none⟩ = some (.bool b') := by subst hW0; simp [go_sem]
  have f10 : W0.frozen? ⟨w.heap.size + 1, 0, none⟩ = false := by subst hW0; simp [go_sem]
  have c11 : W0.cell? ⟨w.heap.size + 1, 1, none⟩ = some (.slice A' n' c') := by subst hW0; simp [go_sem]
  have f11 : W0.frozen? ⟨w.heap.size + 1, 1, none⟩ = false := by subst hW0; simp [go_sem]
  have c20 : W0.cell? ⟨w.heap.size + 1 + 1, 0, none⟩ = some (.bool false) := by subst hW0; simp [go_sem]
  have f20 : W0.frozen? ⟨w.heap.size + 1 + 1, 0, none⟩ = false := by subst hW0; simp [go_sem]
  have c21 : W0.cell? ⟨w.heap.size + 1 + 1, 1, none⟩ = some (.slice none 0 0) := by subst hW0; simp [go_sem]
  have f21 : W0.frozen? ⟨w.heap.size + 1 + 1, 1, none⟩ = false := by subst hW0; simp [go_sem]
  have x0 : Box W0 (w.heap.size) 48 := by subst hW0; exact ((boxAt _ _ _ (by simp)).alloc _).alloc _
  have x1 : Box W0 (w.heap.size + 1) 48 := by subst hW0; exact (boxAt _ _ _ (by simp)).alloc _
  have x2 : Box W0 (w.heap.size + 1 + 1) 48 := by subst hW0; exact boxAt _ _ _ (by simp)
  have hm0 : Made (w.heap.size + 1 + 1) (w.heap.size + 1 + 1 + 1) 2 W0 := by subst hW0; exact made1 (by simp)
  have hs0 : w.heap.size + 1 + 1 + 1 ≤ W0.heap.size := by subst hW0; simp
  clear hW0
  have wa := wa.belw b0
  have wb := wb.belw b0
  have r0 : Below W0.heap.size W0 W0 := brefl _
  have hRB : w.heap.size + 1 + 1 ≤ w.heap.size + 1 + 1 + 1 := by omega
  go_region_held3 (fun w' => Sees (w.heap.size + 1 + 1) W0 w') (first | exact Sees.of (Nat.le_trans hRB hs0) (by assumption) | exact Sees.of (Nat.le_trans hRB hs0) (below_drewN (by assumption) _) | exact (Sees.set (Sees.of (Nat.le_trans hRB hs0) (by assumption)) (by simp)) | exact (Sees.set (Sees.set (Sees.of (Nat.le_trans hRB hs0) (by assumption)) (by simp)) (by simp)))
    (first
      | (go_at_call 72; (with_reducible refine (r_mag_c _ b A n c l ?_ ?_).mono ?_); (exact wa); (omega); rintro e w1 ⟨A1, n1, c1, rfl, h1, hb1⟩; replace hb1 := bnext (below_drewN (brefl _) 1) hb1; have r1 := bnext r0 hb1; replace wa := wa.belw hb1; replace wb := wb.belw hb1)
      | (go_at_call 72; (with_reducible refine (r_mag_c _ b' A' n' c' l' ?_ ?_).mono ?_); (exact wb); (omega); rintro e w2 ⟨A2, n2, c2, rfl, h2, hb2⟩; have r2 := bnext r1 hb2; replace wa := wa.belw hb2; replace wb := wb.belw hb2; replace h1 := h1.belw hb2)
      | (go_at_call 131; (with_reducible refine (r_gcd_any _ A1 n1 c1 (WD.m ⟨b, l⟩) ?_ ?_ A2 n2 c2 (WD.m ⟨b', l'⟩) ?_ ?_).mono ?_); (exact h1); (exact h1.m_len (by rw [← HL.out]; exact hn)); (exact h2); (exact h2.m_len (by rw [← HL'.out]; exact hn')); rintro e w3 ⟨A3, n3, c3, rfl, h3, hb3⟩; have r3 := bnext r2 hb3; replace wa := wa.belw hb3; replace wb := wb.belw hb3; replace h1 := h1.belw hb3; replace h2 := h2.belw hb3)
      | (go_at_call 65; (with_reducible refine (r_form_e _ false A3 n3 c3 (digs (Nat.gcd (val (WD.m ⟨b, l⟩)) (val (WD.m ⟨b', l'⟩)))) (Nat.gcd (val (WD.m ⟨b, l⟩)) (val (WD.m ⟨b', l'⟩)) : Nat) ?_ ?_ ?_).mono ?_); (exact h3); (rw [h3.2.1]; exact gcd_len h1 h2 (Nat.le_trans (h1.m_len (by rw [← HL.out]; exact hn)) (by decide)) (Nat.le_trans (h2.m_len (by rw [← HL'.out]; exact hn')) (by decide))); (rw [val_digs]; rfl); rintro e w4 ⟨A4, n4, c4, rfl, h4, hb4⟩; have r4 := bnext r3 hb4; replace wa := wa.belw hb4; replace wb := wb.belw hb4; replace h1 := h1.belw hb4; replace h2 := h2.belw hb4; replace h3 := h3.belw hb4; obtain ⟨⟨sc, sf⟩, sr, sz⟩ := Seen.of (by omega) hs0 hm0 r4))
  clear hRB
  go_wp2_with fail
  refine bodyPost_ret (v := .agg #[.bool _, .slice A4 n4 c4]) (by simp [results, Tryz.results91, go_sem, sr]; rfl) rfl ?_
  have x := x2.below r4
  refine retW ?_ ?_ ?_
  · rfl
  · exact h4.keep (kp2 x (by decide) _ _ _ _)
  · exact ((b0.trans (r4.mono b0.size)).setCell (by dsimp only; omega) _).setCell (by dsimp only; omega) _
theorem r01_gcd (w : World) (b : Bool) (A : Option Addr) (n c : Nat) (z : Int) (k : Nat) (h : IZ w b A n c z k) (b' : Bool) (A' : Option Addr) (n' c' : Nat) (z' : Int) (k' : Nat) (h' : IZ w b' A' n' c' z' k') (hk : k + k' ≤ 1000000000) : Calls Tryz.prog 91 #[.agg #[.bool b, .slice A n c], .agg #[.bool b', .slice A' n' c']] w (RetI w (Nat.gcd z.natAbs z'.natAbs : Nat) (k + k')) := by
  have hz := h.mono (Nat.le_add_right k k') |>.lt
  have hz' := h'.mono (Nat.le_add_left k' k) |>.lt
  obtain ⟨l, h1, rfl, h3⟩ := h
  obtain ⟨l', h1', rfl, h3'⟩ := h'
  exact (r_Gcd_C w b A n c l h1 (by omega) b' A' n' c' l' h1' (by omega)).mono fun _ _ r => r.i (by simpa using gcd_lt hz hz')
end Go.Proofs.YtpnnfbodphflpaaGreatDoor

/- Walks: the reference's number of bits. -/
namespace Go.Proofs.YtpnnfbodphflpaaGreatDoor
open Go Go.RowKit Bn

theorem val_last {l : List Nat} (h : Wds l) (h0 : 0 < l.length) {t : Nat} (ht : wd l (l.length - 1) < 2 ^ t) : val l < 2 ^ (32 * (l.length - 1) + t) := by
  have e := Sm_ge l (Nat.le_refl _)
  obtain ⟨m, hm⟩ : ∃ m, l.length = m + 1 := ⟨l.length - 1, by omega⟩
  rw [hm] at e ht ⊢
  simp only [Nat.add_sub_cancel] at ht ⊢
  rw [Sm] at e
  have h1 : Sm (wd l) m < 4294967296 ^ m := Sm_lt (fun i _ => wd_lt h i)
  have h2 : (4294967296 : Nat) ^ m = 2 ^ (32 * m) := by rw [Nat.pow_mul]
  rw [h2] at h1 e
  rw [Nat.pow_add, ← e]
  have h3 : (wd l m + 1) * 2 ^ (32 * m) ≤ 2 ^ t * 2 ^ (32 * m) := Nat.mul_le_mul_right _ ht
  rw [Nat.add_mul] at h3
  rw [Nat.mul_comm (2 ^ (32 * m)) (2 ^ t)]
  omega
/-- What bits returns: a number of bits that is enough, and not too many. -/
def RetB (w : World) (v n : Nat) (e : Ending) (w' : World) : Prop := ∃ N : Nat, e = .returned (.int .i64 (N : Nat)) ∧ v < 2 ^ N ∧ N ≤ 32 * n ∧ w = w'
set_option maxRecDepth 100000 in
set_option maxHeartbeats 1000000 in
/-- linkworkref01.bits -/
theorem r_bits_c (w : World) (A : Option Addr) (n c : Nat) (l : List Nat) (wa : Wd w A n c l) (hn : n ≤ 1099511627776) :
    Calls Tryz.prog 171 #[.slice A n c] w (RetB w (val l) n) := by
  have HL := Lib.hid wa.2.1
  by_cases h0 : n = 0
  · subst h0
    have HE := Lib.hid (show val l = 0 by rw [List.eq_nil_of_length_eq_zero HL.out.symm]; rfl)
    clear wa
    go_enter Tryz.func171, Tryz.ntmps171
    go_wp2
    go_ret
    exact ⟨0, rfl, by rw [HE.out]; decide, by omega, rfl⟩
  · obtain ⟨g, o, rfl, hgl, hc⟩ := wa.at2 (by omega)
    have hck := hc (n - 1) (by omega)
    have hlt := wa.lt (n - 1)
    have hp : 0 < n := by omega
    have HW := Lib.hid wa.1
    obtain ⟨x0, hx0⟩ : ∃ x, wd l (n - 1) = x := ⟨_, rfl⟩
    rw [hx0] at hck hlt
    have HX := Lib.hid hx0
    clear hc h0 hx0 wa
    have hn0 : ((n : Int) == 0) = false := by simp; omega
    go_enter Tryz.func171, Tryz.ntmps171
    go_wp2_with fail
    go_loop [3, 4] (fun nv xv => ∃ (t x : Nat), t ≤ 32 ∧ nv = .int .i64 ((32 * (n - 1) + t : Nat) : Int) ∧ xv = .int .u32 (x : Nat) ∧ x < 4294967296 ∧ x = x0 / 2 ^ t) (fun _ xv => (intOf xv).toNat)
    case atStart => exact ⟨0, x0, by omega, by congr 1; omega, rfl, hlt, by simp⟩
    case round =>
      obtain ⟨t, x, ht, rfl, rfl, hx, he⟩ := hrel
      have HE := Lib.hid he
      clear he
      by_cases hz : x = 0
      · subst hz
        go_wp2
        go_ret
        refine ⟨32 * (n - 1) + t, rfl, ?_, by omega, rfl⟩
        have h1 : x0 < 2 ^ t := by
          have := HE.out
          rcases Nat.lt_or_ge x0 (2 ^ t) with h | h
          · exact h
          · have := Nat.div_pos h (Nat.pow_pos (by omega)); omega
        have := val_last HW.out (by rw [← HL.out]; exact hp) (t := t) (by rw [← HL.out, HX.out]; exact h1)
        rwa [← HL.out] at this
      · have ht2 : t < 32 := by
          rcases Nat.lt_or_ge t 32 with h | h
          · exact h
          · exfalso
            have e : t = 32 := by omega
            have := HE.out
            rw [e] at this
            have : x = 0 := by rw [this]; exact Nat.div_eq_of_lt hlt
            omega
        have hxp : 0 < x := by omega
        go_wp2
        go_round
        case rel => exact ⟨t + 1, x / 2, by omega, by congr 1 <;> omega, by congr 1 <;> omega, by omega, by rw [HE.out, Nat.pow_succ, Nat.div_div_eq_div_mul]⟩
        case measure => simp [intOf]; omega
end Go.Proofs.YtpnnfbodphflpaaGreatDoor

/- Walks: the reference's division. -/
namespace Go.Proofs.YtpnnfbodphflpaaGreatDoor
open Go Go.RowKit Bn
attribute [local go_sem ↓] Go.wp_at_zero Go.wp_at_succ

theorem val_rep (m : Nat) : val (List.replicate m 0) = 0 := by
  induction m with
  | zero => rfl
  | succ m ih => rw [List.replicate_succ, val, ih]
theorem wds_rep (m : Nat) : Wds (List.replicate m 0) := by intro x hx; rw [List.eq_of_mem_replicate hx]; omega
theorem words_cells (l : List Nat) : (cellsOf l).toList = words l := by simp [cellsOf, words]
theorem OwS.made (w : World) {B : Nat} (L : List Nat) (n : Nat) (hB : B ≤ w.heap.size) (hn : n ≤ 4398046511104) (hL : L.length = n) (hW : Wds L) : OwS (w.alloc (.cells (cellsOf L) 84)) B w.heap.size n n L := by
  refine ⟨?_, hW⟩
  rw [← words_cells]
  exact World.ownsRow_lit w (cellsOf L) n hB (by unfold maxLen; omega) (by simp [cellsOf, hL])
theorem OwS.far {w : World} {B g n cap : Nat} {l : List Nat} (h : OwS w B g n cap l) {p : Addr} (hp : g ≠ p.block) (u : Value) : OwS (w.setCell p u) B g n cap l := by
  refine ⟨⟨h.1.1, ?_⟩, h.2⟩
  rcases h.1.2 with ⟨e, _⟩ | ⟨g', c', cur, e, hB, hgg, r⟩
  · cases e
  · have e' := e
    injection e with e1 _ e2; injection e1 with e1; injection e1 with e1; subst e1
    exact .inr ⟨g, c', cur, e', hB, (Below.heap_setCell w p u g hp).trans hgg, r⟩
theorem or_word {u p s : Nat} (hu : u + p < 4294967296) (ho : u ||| p = u + p) (hp : 2 ^ s = p) : bits .or .u32 (u : Int) ((2 : Int) ^ s % 4294967296) = ((u + p : Nat) : Int) := by
  have e : (2 : Int) ^ s % 4294967296 = (p : Int) := by
    have h : (2 : Int) ^ s = ((2 ^ s : Nat) : Int) := by simp
    rw [h, hp]; omega
  rw [e, ← ho]
  exact u32_or_nat u p (by omega) (by omega)
theorem q_in {q m : Nat} : (2 * q + 1) * 2 ^ m = q * 2 ^ (m + 1) + 2 ^ m := by rw [Nat.pow_succ]; grind
theorem q_out {q m : Nat} : (2 * q) * 2 ^ m = q * 2 ^ (m + 1) := by rw [Nat.pow_succ]; grind
def DivO (a b : Nat) (Lq Lr : List Nat) (k : Nat) : Prop := val Lq = a / 2 ^ k / b * 2 ^ k ∧ val Lr = a / 2 ^ k % b
set_option maxRecDepth 100000 in
set_option maxHeartbeats 2000000 in
/-- linkworkref01.divide -/
theorem r_divide_c (w : World) (A : Option Addr) (n c : Nat) (l : List Nat) (wa : Wd w A n c l) (hn : n ≤ 1000000000000) (A' : Option Addr) (n' c' : Nat) (l' : List Nat) (wb : Wd w A' n' c' l') (hn' : n' ≤ 1000000000000) (h0 : val l' ≠ 0) :
    Calls Tryz.prog 158 #[.slice A n c, .slice A' n' c'] w (RetD w (val l) (val l')) := by
  have HL := Lib.hid wa.2.1
  have HL' := Lib.hid wb.2.1
  obtain ⟨va, hva⟩ : ∃ v, val l = v := ⟨_, rfl⟩
  obtain ⟨vb, hvb⟩ : ∃ v, val l' = v := ⟨_, rfl⟩
  have HA := Lib.hid hva
  have HB := Lib.hid hvb
  rw [hvb] at h0
  have H0 := Lib.hid (Nat.pos_of_ne_zero h0)
  rw [hva, hvb]
  obtain ⟨gb, ob, rfl, hgb, _⟩ := wb.at2 (by
    rcases Nat.eq_zero_or_pos n' with e | e
    · exfalso
      have h9 := HL'.out
      rw [e] at h9
      rw [List.eq_nil_of_length_eq_zero h9.symm] at hvb
      exact h0 hvb.symm
    · exact e)
  clear h0 hva hvb
  go_enter Tryz.func158, Tryz.ntmps158
  go_wp2_with (first
    | (at_make; refine wpList_make_words _ rfl _ _ rfl _ _ _ _ n rfl rfl (by omega) (by omega) (by omega) ?_)
    | (at_make; refine wpList_make_words _ rfl _ _ rfl _ _ _ _ (n' + 1) rfl rfl (by omega) (by omega) (by omega) ?_))
  (with_reducible refine (r_bits_c _ A n c l ?_ (by omega)).mono ?_); (exact wa.keep (((Kp.refl w).alloc _).alloc _)); rintro e w1 ⟨N, rfl, hN1, hN2, rfl⟩
  rw [HA.out] at hN1
  go_wp2_with fail
  have oq0 : OwS ((w.alloc (.cells (cellsOf (List.replicate n 0)) 84)).alloc (.cells (cellsOf (List.replicate (n' + 1) 0)) 84)) w.heap.size w.heap.size n n (List.replicate n 0) :=
    (OwS.made w (List.replicate n 0) n (Nat.le_refl _) (by omega) (by simp) (wds_rep n)).belw ((brefl _).alloc (Nat.le_refl _) _)
  have or0 : OwS ((w.alloc (.cells (cellsOf (List.replicate n 0)) 84)).alloc (.cells (cellsOf (List.replicate (n' + 1) 0)) 84)) w.heap.size (w.heap.size + 1) (n' + 1) (n' + 1) (List.replicate (n' + 1) 0) := by
    have h := OwS.made (w.alloc (.cells (cellsOf (List.replicate n 0)) 84)) (B := w.heap.size) (List.replicate (n' + 1) 0) (n' + 1) (by simp) (by omega) (by simp) (wds_rep _)
    simpa using h
  have HO := Lib.hid (And.intro oq0 or0)
  clear oq0 or0
  go_loopw [8] (fun iv wr => ∃ (k : Nat) (z : Int) (Lq Lr : List Nat), k ≤ N ∧ iv = .int .i64 z ∧ z + 1 = (k : Int) ∧ DivO va vb Lq Lr k ∧ OwS wr w.heap.size w.heap.size n n Lq ∧ OwS wr w.heap.size (w.heap.size + 1) (n' + 1) (n' + 1) Lr ∧ Below w.heap.size w wr) (fun iv _ => (intOf iv + 1).toNat)
  case atStart =>
    refine ⟨N, (N : Int) - 1, _, _, Nat.le_refl _, by go_num, by omega, ⟨?_, ?_⟩, HO.out.1, HO.out.2, ((brefl w).alloc (Nat.le_refl _) _).alloc (by simp) _⟩
    · rw [val_rep, Nat.div_eq_of_lt hN1]; simp
    · rw [val_rep, Nat.div_eq_of_lt hN1]; simp
  case round =>
    obtain ⟨k, z, Lq, Lr, hk, rfl, hz, hI, hq, hr, hbel⟩ := hrel
    have HK := Lib.hid ((Kp.refl w).below hbel)
    have HI := Lib.hid hI
    have HQ := Lib.hid hq
    have HR := Lib.hid hr
    have HBL := Lib.hid hbel
    clear hI hq hr hbel HO
    by_cases hk0 : k = 0
    · subst hk0
      have ez : z = -1 := by omega
      subst ez
      go_wp2_with fail
      (with_reducible refine (r_trim_c _ (some ⟨w.heap.size, 0, none⟩) n n Lq ?_ (by omega)).mono ?_); (exact HQ.out.toWd); rintro e w1 ⟨A1, n1, c1, rfl, h1, hb1⟩
      have HR2 := Lib.hid (HR.out.belw hb1)
      have HBL2 := Lib.hid (HBL.out.trans (hb1.mono HBL.out.size))
      clear hb1
      go_wp2_with fail
      (with_reducible refine (r_trim_c _ (some ⟨w.heap.size + 1, 0, none⟩) (n' + 1) (n' + 1) Lr ?_ (by omega)).mono ?_); (exact HR2.out.toWd); rintro e w2 ⟨A2, n2, c2, rfl, h2, hb2⟩
      have h1' := h1.keep ((Kp.refl w1).below hb2)
      have HBL3 := HBL2.out.trans (hb2.mono HBL2.out.size)
      rw [HI.out.1] at h1'
      rw [HI.out.2] at h2
      simp only [Nat.pow_zero, Nat.div_one, Nat.mul_one] at h1' h2
      have HF := Lib.hid (And.intro h1' (And.intro h2 HBL3))
      clear h1 h1' h2 HBL3 hb2
      go_wp2
      refine bodyPost_ret (v := .tuple #[.slice A1 n1 c1, .slice A2 n2 c2]) (by simp [results, Tryz.results158, go_sem]) rfl ?_
      exact ⟨A1, n1, c1, A2, n2, c2, rfl, HF.out.1, HF.out.2.1, HF.out.2.2⟩
    · obtain ⟨m, rfl⟩ : ∃ m, k = m + 1 := ⟨k - 1, by omega⟩
      have ez : z = (m : Int) := by omega
      subst ez
      have hm32 : m / 32 < n := by omega
      obtain ⟨ga, oa, rfl, hgl, hca⟩ := (wa.keep HK.out).at2 (by omega)
      have hcx := hca (m / 32) hm32
      obtain ⟨x, hx⟩ : ∃ x, wd l (m / 32) = x := ⟨_, rfl⟩
      have hx1 : x < 4294967296 := by rw [← hx]; exact wa.lt _
      rw [hx] at hcx
      have HX := Lib.hid hx
      obtain ⟨br, hbr⟩ : ∃ d, bits .and .u32 ((x : Int) / 2 ^ (m % 32)) 1 = d := ⟨_, rfl⟩
      obtain ⟨b, hb⟩ : ∃ b, va / 2 ^ m % 2 = b := ⟨_, rfl⟩
      have hbb : br = (b : Int) := by
        rw [← hbr, ← hb, ← HA.out, ← wd_bit wa.1 m, hx]
        have e : (x : Int) / 2 ^ (m % 32) = ((x / 2 ^ (m % 32) : Nat) : Int) := by simp
        rw [e, and_one _ (Nat.lt_of_le_of_lt (Nat.div_le_self _ _) hx1)]
      have HB1 := Lib.hid hb
      have hb1 : b ≤ 1 := by omega
      clear hca hx hz hk0 hb
      go_wp2_with fail
      try rw [hbb]
      clear hbr hbb
      go_loopw [9, 36] (fun cv kv w2 => ∃ (k cr : Nat) (L2 : List Nat), k ≤ n' + 1 ∧ kv = .int .i64 (k : Nat) ∧ cv = .int .u32 (cr : Nat) ∧ cr ≤ 1 ∧ DblI Lr L2 b k cr ∧ OwS w2 w.heap.size w.heap.size n n Lq ∧ OwS w2 w.heap.size (w.heap.size + 1) (n' + 1) (n' + 1) L2 ∧ Below w.heap.size w w2) (fun _ kv _ => n' + 1 - (intOf kv).toNat)
      case atStart => exact ⟨0, b, Lr, Nat.zero_le _, rfl, rfl, hb1, DblI.start _ _, HQ.out, HR.out, HBL.out⟩
      case round =>
        obtain ⟨k, cr, L2, hk2, rfl, rfl, hcr, hI2, hq2, hr2, hbel2⟩ := hrel
        have HI2 := Lib.hid hI2
        have HQ2 := Lib.hid hq2
        have HR2 := Lib.hid hr2
        have HBL2 := Lib.hid hbel2
        clear hI2 hq2 hr2 hbel2
        by_cases hkk : k < n' + 1
        · obtain ⟨y, hy⟩ : ∃ y, wd Lr k = y := ⟨_, rfl⟩
          have hy1 : y < 4294967296 := by rw [← hy]; exact wd_lt HR.out.2 _
          have hck := HR2.out.cell k hkk
          rw [HI2.out.1 k (Nat.le_refl _), hy] at hck
          have hfk := HR2.out.frozen k
          have HY := Lib.hid hy
          obtain ⟨s, hs⟩ : ∃ s, bits .or .u32 ((y : Int) * 2 % 4294967296) (cr : Int) = s := ⟨_, rfl⟩
          have he : s = ((y * 2 % 4294967296 + cr : Nat) : Int) := by
            rw [← hs, ← (dbl_word hcr hy1).1]
            exact u32_or_nat (y * 2 % 4294967296) cr (Nat.mod_lt _ (by decide)) (by omega)
          have HE := Lib.hid he
          have HS := Lib.hid (dbl_word hcr hy1).2
          clear hy he
          go_wp2
          go_region
          clear hs
          go_wp2
          go_roundw
          case rel =>
            have hst := HI2.out.step HY.out hy1 (by rw [← HR2.out.len]; exact hkk)
            refine ⟨k + 1, y / 2147483648, L2.set k (y * 2 % 4294967296 + cr), by omega, by go_num, by go_num, HS.out.2, hst, ?_, ?_, ?_⟩
            · exact OwS.far (w := wr) HQ2.out (p := ⟨w.heap.size + 1, k, none⟩) (by simp) _
            · exact OwS.set (w := wr) HR2.out k HS.out.1 HE.out
            · exact (Below.setCell HBL2.out (p := ⟨w.heap.size + 1, k, none⟩) (by simp) _).drew
          case measure => simp [intOf]; omega
        · have hkn : k = n' + 1 := by omega
          subst hkn
          have hv2 : val L2 = 2 * val Lr + b := by
            have h3 := HR2.out.len
            have h4 := HR.out.len
            refine DblI.fin HI2.out (by omega) (by omega) ?_
            refine dbl_room (v := vb) ?_ ?_ hb1
            · rw [HI.out.2]; exact Nat.mod_lt _ H0.out
            · rw [← HB.out, HL'.out]; exact val_lt wb.1
          rw [HI.out.2, ← HB1.out] at hv2
          obtain ⟨r2, hr2⟩ : ∃ r, val L2 = r := ⟨_, rfl⟩
          rw [hr2] at hv2
          have HV := Lib.hid hv2
          have HR2v := Lib.hid hr2
          clear hv2 hr2
          by_cases hge : vb ≤ r2
          · have hc0 : 0 ≤ cmpN r2 vb := by unfold cmpN; (repeat' split) <;> omega
            obtain ⟨cv, hcv⟩ : ∃ cv, cmpN r2 vb = cv := ⟨_, rfl⟩
            rw [hcv] at hc0
            have HC := Lib.hid hcv
            clear hcv
            go_wp2_with fail
            (with_reducible refine (r_compare_c _ (some ⟨w.heap.size + 1, 0, none⟩) (n' + 1) (n' + 1) L2 ?_ ?_ (some ⟨gb, ob, none⟩) n' c' l' ?_ ?_).mono ?_); (exact HR2.out.toWd); (omega); (exact wb.keep ((Kp.refl w).below HBL2.out)); (omega); rintro e w1 ⟨rfl, hbl1⟩
            rw [HR2v.out, HB.out, HC.out]
            have HQ3 := Lib.hid (HQ2.out.belw hbl1)
            have HR3 := Lib.hid (HR2.out.belw hbl1)
            have HBL3 := Lib.hid (HBL2.out.trans (hbl1.mono HBL2.out.size))
            clear hbl1 HQ2 HR2 HBL2
            go_wp2_with fail
            (with_reducible refine (r_take_o _ w.heap.size (w.heap.size + 1) (n' + 1) (n' + 1) L2 ?_ ?_ (some ⟨gb, ob, none⟩) n' c' l' ?_ ?_ ?_ ?_).mono ?_)
            · exact HR3.out
            · omega
            · exact wb.keep ((Kp.refl w).below HBL3.out)
            · intro ad e; injection e with e; subst e; show gb ≠ _; omega
            · omega
            · rw [HR2v.out, HB.out]; exact hge
            rintro e w2 ⟨L3, rfl, hr3, hv3, hon⟩
            rw [HR2v.out, HB.out] at hv3
            have hq3 := hon.own HQ3.out (by omega)
            have HBL4 := Lib.hid (HBL3.out.trans (hon.1.mono (by omega)))
            have HR4 := Lib.hid hr3
            have HV3 := Lib.hid hv3
            obtain ⟨u, hu⟩ : ∃ u, wd Lq (m / 32) = u := ⟨_, rfl⟩
            have hcq := hq3.cell (m / 32) hm32
            have hfq := hq3.frozen (m / 32)
            rw [hu] at hcq
            have hob := or_bit HQ.out.2 m (by rw [← HQ.out.len]; exact hm32) HI.out.1
            rw [hu] at hob
            obtain ⟨p, hp⟩ : ∃ p, 2 ^ (m % 32) = p := ⟨_, rfl⟩
            rw [hp] at hob
            have HQ4 := Lib.hid hq3
            have HOB := Lib.hid hob
            have HU := Lib.hid hu
            have HP := Lib.hid hp
            clear hr3 hv3 hon hq3 HQ3 HR3 HBL3 hu hob hp
            go_wp2
            go_region
            go_wp2
            go_roundw
            case rel =>
              have hbi := bit_in (a := va) (k := m) HV.out hge H0.out
              have he := or_word HOB.out.2.1 HOB.out.1 HP.out
              refine ⟨m, (m : Int) - 1, Lq.set (m / 32) (u + p), L3, by omega, by go_num, by omega, ⟨?_, ?_⟩, ?_, ?_, ?_⟩
              · rw [HOB.out.2.2, HI.out.1, hbi.1, q_in]
              · rw [HV3.out, hbi.2]
              · exact OwS.set (w := w2) HQ4.out (m / 32) HOB.out.2.1 he
              · exact OwS.far (w := w2) HR4.out (p := ⟨w.heap.size, m / 32, none⟩) (by simp) _
              · exact (Below.setCell HBL4.out (p := ⟨w.heap.size, m / 32, none⟩) (by simp) _).drew
            case measure => simp [intOf] <;> omega
          · have hc0 : cmpN r2 vb < 0 := by unfold cmpN; (repeat' split) <;> omega
            obtain ⟨cv, hcv⟩ : ∃ cv, cmpN r2 vb = cv := ⟨_, rfl⟩
            rw [hcv] at hc0
            have HC := Lib.hid hcv
            clear hcv
            go_wp2_with fail
            (with_reducible refine (r_compare_c _ (some ⟨w.heap.size + 1, 0, none⟩) (n' + 1) (n' + 1) L2 ?_ ?_ (some ⟨gb, ob, none⟩) n' c' l' ?_ ?_).mono ?_); (exact HR2.out.toWd); (omega); (exact wb.keep ((Kp.refl w).below HBL2.out)); (omega); rintro e w1 ⟨rfl, hbl1⟩
            rw [HR2v.out, HB.out, HC.out]
            have HQ3 := Lib.hid (HQ2.out.belw hbl1)
            have HR3 := Lib.hid (HR2.out.belw hbl1)
            have HBL3 := Lib.hid (HBL2.out.trans (hbl1.mono HBL2.out.size))
            clear hbl1 HQ2 HR2 HBL2
            go_wp2
            go_roundw
            case rel =>
              have hbi := bit_out (a := va) (k := m) HV.out (by omega)
              refine ⟨m, (m : Int) - 1, Lq, L2, by omega, by go_num, by omega, ⟨?_, ?_⟩, HQ3.out, HR3.out, HBL3.out⟩
              · rw [HI.out.1, hbi.1, q_out]
              · rw [HR2v.out, hbi.2]
            case measure => simp [intOf] <;> omega
end Go.Proofs.YtpnnfbodphflpaaGreatDoor

/- Walks: the reference's Sign, Sub, Cmp; its contracts as values. -/
namespace Go.Proofs.YtpnnfbodphflpaaGreatDoor
open Go Go.RowKit Bn
attribute [local go_sem ↓] Go.wp_at_zero Go.wp_at_succ
set_option maxHeartbeats 1000000 in
theorem r_sign_c (w : World) (b : Bool) (A : Option Addr) (n c : Nat) (l : List Nat) (wa : Wd w A n c l) (hn : n ≤ 1099511627000) :
    Calls Tryz.prog 94 #[.agg #[.bool b, .slice A n c]] w (RetV w (.int .i64 (WD.z ⟨b, l⟩).sign)) := by
  have hz := WD.z_eq ⟨b, l⟩
  have hcan : Canon (WD.m ⟨b, l⟩) := WD.canon_m wa.1
  by_cases hm : WD.m ⟨b, l⟩ = []
  · have HE := Lib.hid (show (WD.z ⟨b, l⟩).sign = 0 by rw [hz, hm]; cases WD.s ⟨b, l⟩ <;> rfl)
    have HM := Lib.hid hm
    clear hz hm hcan
    go_enter Tryz.func94, Tryz.ntmps94
    go_wp2_with fail
    (with_reducible refine (r_mag_c _ b A n c l ?_ ?_).mono ?_); (exact wa.keep ((Kp.refl _).alloc _)); (omega); rintro e w1 ⟨A1, n1, c1, rfl, h1, hb⟩
    have hn1 : n1 = 0 := by rw [h1.2.1, HM.out]; rfl
    subst hn1
    go_wp2_with fail
    go_ret
    exact retI HE.out.symm (((Below.refl _ _).alloc (Nat.le_refl _) _).trans (hb.mono (by simp)))
  · obtain ⟨s, hs⟩ : ∃ s, WD.s ⟨b, l⟩ = s := ⟨_, rfl⟩
    have hv : val (WD.m ⟨b, l⟩) ≠ 0 := fun e => hm ((val_eq_zero hcan).1 e)
    have HE := Lib.hid (show (WD.z ⟨b, l⟩).sign = if s then -1 else 1 by
      rw [hz, hs]
      cases s
      · simp only [sgn]; exact Int.sign_eq_one_of_pos (by simp; omega)
      · simp only [sgn]; exact Int.sign_eq_neg_one_of_neg (by simp; omega))
    have HM := Lib.hid hm
    have HS := Lib.hid hs
    clear hz hm hcan hs hv
    go_enter Tryz.func94, Tryz.ntmps94
    go_wp2_with fail
    (with_reducible refine (r_mag_c _ b A n c l ?_ ?_).mono ?_); (exact wa.keep ((Kp.refl _).alloc _)); (omega); rintro e w1 ⟨A1, n1, c1, rfl, h1, hb⟩
    have hn1 : n1 ≠ 0 := fun e => HM.out (List.eq_nil_of_length_eq_zero (by rw [← h1.2.1, e]))
    have e0 : ((n1 : Int) == 0) = false := by simp; omega
    have q : Below w.heap.size w w1 := ((Below.refl _ _).alloc (Nat.le_refl _) _).trans (hb.mono (by simp))
    have x : Blk w1 w.heap.size 48 #[.bool b, .slice A n c] := (blkAt w _ _ rfl).below hb (by simp)
    obtain ⟨cx0, cx1⟩ := x.c2
    clear hb hn1
    go_wp2_with fail
    (with_reducible refine (r_neg_c _ b A n c l ?_ ?_).mono ?_); (exact wa.belw q); (omega); rintro e w2 ⟨rfl, hb2⟩
    rw [HS.out]
    cases s
    all_goals
      go_wp2_with fail
      go_ret
      exact retI HE.out.symm (q.trans (hb2.mono q.size))
theorem cmpI_sub (x y : Int) : (x + -y).sign = cmpI x y := by
  unfold cmpI
  rcases Int.lt_trichotomy x y with h | h | h
  · rw [if_pos h]; exact Int.sign_eq_neg_one_of_neg (by omega)
  · subst h; simp [show x + -x = 0 by omega]
  · rw [if_neg (by omega), if_neg (by omega)]; exact Int.sign_eq_one_of_pos (by omega)
section
variable (w : World) (b : Bool) (A : Option Addr) (n c : Nat) (z : Int) (k : Nat) (h : IZ w b A n c z k) (b' : Bool) (A' : Option Addr) (n' c' : Nat) (z' : Int) (k' : Nat) (h' : IZ w b' A' n' c' z' k')
include h
theorem r01_neg (hk : k ≤ 1000000000) : Calls Tryz.prog 99 #[.agg #[.bool b, .slice A n c]] w (RetI w (-z) k) := by
  have hz := h.lt
  obtain ⟨l, h1, rfl, h3⟩ := h
  exact (r_neg_C w b A n c l h1 (by omega)).mono fun _ _ r => r.i (by omega)
theorem r01_sign (hk : k ≤ 1000000000) : Calls Tryz.prog 94 #[.agg #[.bool b, .slice A n c]] w (RetV w (.int .i64 z.sign)) := by
  obtain ⟨l, h1, rfl, h3⟩ := h
  exact r_sign_c w b A n c l h1 (by omega)
include h'
theorem r01_add (hk : k + k' ≤ 1000000000) : Calls Tryz.prog 98 #[.agg #[.bool b, .slice A n c], .agg #[.bool b', .slice A' n' c']] w (RetI w (z + z') (k + k' + 1)) := by
  have hz := h.mono (Nat.le_add_right k k') |>.lt
  have hz' := h'.mono (Nat.le_add_left k' k) |>.lt
  obtain ⟨l, h1, rfl, h3⟩ := h
  obtain ⟨l', h1', rfl, h3'⟩ := h'
  exact (r_add_c w b A n c l h1 (by omega) b' A' n' c' l' h1' (by omega)).mono fun _ _ r => r.i (natAbs_add_lt hz hz')
end
theorem r01_of (w : World) (i : Int) (k : Nat) (h0 : -9223372036854775808 ≤ i) (h1 : i < 9223372036854775808) (hs : i.natAbs < 4294967296 ^ k) : Calls Tryz.prog 52 #[.int .i64 i] w (RetI w i k) :=
  (r_of_c w i h0 h1).mono fun _ _ r => r.i hs
theorem r01_of1 (w : World) (i : Int) (h0 : -4294967296 < i) (h1 : i < 4294967296) : Calls Tryz.prog 52 #[.int .i64 i] w (RetI w i 1) := r01_of w i 1 (by omega) (by omega) (by omega)
set_option maxRecDepth 100000 in
set_option maxHeartbeats 2000000 in
/-- linkworkref01.Sub -/
theorem r01_sub (w : World) (b : Bool) (A : Option Addr) (n c : Nat) (z : Int) (k : Nat) (h : IZ w b A n c z k) (b' : Bool) (A' : Option Addr) (n' c' : Nat) (z' : Int) (k' : Nat) (h' : IZ w b' A' n' c' z' k') (hk : k + k' ≤ 1000000000) :
    Calls Tryz.prog 130 #[.agg #[.bool b, .slice A n c], .agg #[.bool b', .slice A' n' c']] w (RetI w (z + -z') (k + k' + 1)) := by
  go_enter Tryz.func130, Tryz.ntmps130
  go_wp2_with fail
  have p1 : Kp w (((w.alloc (.cells #[.bool b, .slice A n c] 48)).alloc (.cells #[.bool b', .slice A' n' c'] 48)).alloc (.cells #[.bool false, .slice none 0 0] 48)) := ((((Kp.refl w).alloc (.cells #[.bool b, .slice A n c] 48)).alloc (.cells #[.bool b', .slice A' n' c'] 48)).alloc (.cells #[.bool false, .slice none 0 0] 48))
  have bw1 : Below w.heap.size w (((w.alloc (.cells #[.bool b, .slice A n c] 48)).alloc (.cells #[.bool b', .slice A' n' c'] 48)).alloc (.cells #[.bool false, .slice none 0 0] 48)) := ((((brefl w).alloc (by first | omega | (simp <;> omega)) (.cells #[.bool b, .slice A n c] 48)).alloc (by first | omega | (simp <;> omega)) (.cells #[.bool b', .slice A' n' c'] 48)).alloc (by first | omega | (simp <;> omega)) (.cells #[.bool false, .slice none 0 0] 48))
  have x1_0 : Blk (((w.alloc (.cells #[.bool b, .slice A n c] 48)).alloc (.cells #[.bool b', .slice A' n' c'] 48)).alloc (.cells #[.bool false, .slice none 0 0] 48)) (w.heap.size) 48 #[.bool b, .slice A n c] := (((blkAt _ _ _ (by simp)).alloc (.cells #[.bool b', .slice A' n' c'] 48)).alloc (.cells #[.bool false, .slice none 0 0] 48))
  have x1_1 : Blk (((w.alloc (.cells #[.bool b, .slice A n c] 48)).alloc (.cells #[.bool b', .slice A' n' c'] 48)).alloc (.cells #[.bool false, .slice none 0 0] 48)) (w.heap.size + 1) 48 #[.bool b', .slice A' n' c'] := ((blkAt _ _ _ (by simp)).alloc (.cells #[.bool false, .slice none 0 0] 48))
  have x1_2 : Blk (((w.alloc (.cells #[.bool b, .slice A n c] 48)).alloc (.cells #[.bool b', .slice A' n' c'] 48)).alloc (.cells #[.bool false, .slice none 0 0] 48)) (w.heap.size + 1 + 1) 48 #[.bool false, .slice none 0 0] := (blkAt _ _ _ (by simp))
  have lw1 : w.heap.size + 3 ≤ (((w.alloc (.cells #[.bool b, .slice A n c] 48)).alloc (.cells #[.bool b', .slice A' n' c'] 48)).alloc (.cells #[.bool false, .slice none 0 0] 48)).heap.size := by simp
  generalize hE1 : (((w.alloc (.cells #[.bool b, .slice A n c] 48)).alloc (.cells #[.bool b', .slice A' n' c'] 48)).alloc (.cells #[.bool false, .slice none 0 0] 48)) = w1 at p1 bw1 lw1 x1_0 x1_1 x1_2 ⊢
  clear hE1
  replace h := h.keep p1
  replace h' := h'.keep p1
  obtain ⟨cx1_0_0, cx1_0_1⟩ := x1_0.c2
  obtain ⟨lx1_0_0, lx1_0_1, lx1_0_2, lx1_0_3⟩ := lts0 x1_0.lt
  obtain ⟨cx1_1_0, cx1_1_1⟩ := x1_1.c2
  obtain ⟨lx1_1_0, lx1_1_1, lx1_1_2, lx1_1_3⟩ := lts1 x1_1.lt
  obtain ⟨cx1_2_0, cx1_2_1⟩ := x1_2.c2
  obtain ⟨fx1_2_0, fx1_2_1⟩ := x1_2.f2
  obtain ⟨lx1_2_0, lx1_2_1, lx1_2_2, lx1_2_3⟩ := lts2 x1_2.lt
  have nfx1_0_0 : ¬ w.heap.size = w.heap.size + 1 + 1 := by omega
  have nex1_0_0 : ¬ w.heap.size = w.heap.size + 2 := by omega
  have nfx1_1_0 : ¬ w.heap.size + 1 = w.heap.size + 1 + 1 := by omega
  have nex1_1_0 : ¬ w.heap.size = w.heap.size + 1 := by omega
  go_region_held3 (fun w' => SeesX w1.heap.size (w.heap.size + 1 + 1) w1 w') (first | with_reducible exact SeesX.of (Nat.le_refl _) (by assumption) | with_reducible exact SeesX.of (Nat.le_refl _) (brefl _).drew | with_reducible exact (SeesX.set (SeesX.set (SeesX.of (Nat.le_refl _) (by assumption)))) | with_reducible exact (SeesX.set (SeesX.of (Nat.le_refl _) (by assumption))) | exact SeesX.of (Nat.le_refl _) (below_drewN (brefl _) 1) | exact SeesX.of (Nat.le_refl _) (below_drewN (by assumption) _))
    (first
      | (go_at_call 99; (with_reducible refine (r01_neg _ b' A' n' c' (z') (k') ?_ ?_).mono ?_); (exact h'); (first | omega | decide | assumption); rintro e w2 ⟨b2, A2, n2, c2, rfl, h2, hb2⟩; replace hb2 := bnext (below_drewN (brefl _) 1) hb2; have q2 : Below w1.heap.size w1 w2 := bnext (brefl w1) hb2; replace h := h.belw hb2; replace h' := h'.belw hb2)
      | (go_at_call 98; (with_reducible refine (r01_add _ b A n c (z) (k) ?_ b2 A2 n2 c2 (-(z')) ((k')) ?_ ?_).mono ?_); (exact h); (exact h2.iz); (first | omega | decide | assumption); rintro e w3 ⟨b3, A3, n3, c3, rfl, h3, hb3⟩; have q3 : Below w1.heap.size w1 w3 := bnext q2 hb3; replace h := h.belw hb3; replace h' := h'.belw hb3; replace h2 := h2.belw hb3; have x1_2 : Blk w3 (w.heap.size + 1 + 1) 48 #[.bool false, .slice none 0 0] := x1_2.below q3 x1_2.lt; obtain ⟨cx1_2_0, cx1_2_1⟩ := x1_2.c2; obtain ⟨fx1_2_0, fx1_2_1⟩ := x1_2.f2))
  have bw3 : Below w.heap.size w w3 := bw1.trans (q3.mono bw1.size)
  clear cx1_0_0 cx1_0_1 lx1_0_0 lx1_0_1 lx1_0_2 lx1_0_3 cx1_1_0 cx1_1_1 lx1_1_0 lx1_1_1 lx1_1_2 lx1_1_3 cx1_2_0 fx1_2_0 cx1_2_1 fx1_2_1 lx1_2_0 lx1_2_1 lx1_2_2 lx1_2_3
  replace x1_0 := x1_0.below q3 x1_0.lt
  replace x1_1 := x1_1.below q3 x1_1.lt
  have lw3 : w1.heap.size ≤ w3.heap.size := q3.size
  obtain ⟨cx1_2_0, cx1_2_1⟩ := x1_2.c2
  obtain ⟨fx1_2_0, fx1_2_1⟩ := x1_2.f2
  go_wp2_with fail
  refine bodyPost_ret (v := .agg #[.bool b3, .slice A3 n3 c3]) (by simp [results, Tryz.results130, go_sem, *] <;> first | rfl | exact ⟨rfl, rfl⟩) rfl ?_
  exact ⟨b3, A3, n3, c3, rfl, h3.keep (((Kp.refl w3).setB (p := ⟨w.heap.size + 1 + 1, 0, none⟩) x1_2.box (by decide) (.bool b3)).setB (p := ⟨w.heap.size + 1 + 1, 1, none⟩) (x1_2.box.set ⟨w.heap.size + 1 + 1, 0, none⟩ (.bool b3)) (by decide) (.slice A3 n3 c3)), ((bw3.setCell (p := ⟨w.heap.size + 1 + 1, 0, none⟩) (by dsimp only; omega) (.bool b3)).setCell (p := ⟨w.heap.size + 1 + 1, 1, none⟩) (by dsimp only; omega) (.slice A3 n3 c3))⟩
set_option maxRecDepth 100000 in
set_option maxHeartbeats 2000000 in
/-- linkworkref01.Cmp -/
theorem r01_cmp (w : World) (b : Bool) (A : Option Addr) (n c : Nat) (z : Int) (k : Nat) (h : IZ w b A n c z k) (b' : Bool) (A' : Option Addr) (n' c' : Nat) (z' : Int) (k' : Nat) (h' : IZ w b' A' n' c' z' k') (hk : k + k' ≤ 999999999) :
    Calls Tryz.prog 90 #[.agg #[.bool b, .slice A n c], .agg #[.bool b', .slice A' n' c']] w (RetV w (.int .i64 (cmpI z z'))) := by
  go_enter Tryz.func90, Tryz.ntmps90
  go_wp2_with fail
  (with_reducible refine (r01_sub _ b A n c (z) (k) ?_ b' A' n' c' (z') (k') ?_ ?_).mono ?_); (exact (h.belw (((Below.refl _ _).alloc (Nat.le_refl _) _).alloc (by simp) _))); (exact (h'.belw (((Below.refl _ _).alloc (Nat.le_refl _) _).alloc (by simp) _))); (first | omega | decide | assumption); rintro e w1 ⟨b1, A1, n1, c1, rfl, h1, hb1⟩
  have q1 : Below w.heap.size w w1 := (((Below.refl _ _).alloc (Nat.le_refl _) _).alloc (by simp) _).trans (hb1.mono (by simp <;> omega))
  replace h := h.belw q1
  replace h' := h'.belw q1
  have x1_0 : Blk w1 (w.heap.size) 48 #[.bool b, .slice A n c] := ((blkAt _ _ _ (by simp)).alloc _).below hb1 (by simp <;> omega)
  have x1_1 : Blk w1 (w.heap.size + 1) 48 #[.bool b', .slice A' n' c'] := (blkAt _ _ _ (by simp)).below hb1 (by simp)
  have bw1 : Below w.heap.size w w1 := (brefl w).trans (q1.mono (brefl w).size)
  have lw1 : w.heap.size + 2 ≤ w1.heap.size := by have := hb1.size; simp at this; omega
  clear hb1 q1
  go_wp2_with fail
  (with_reducible refine (r01_sign _ b1 A1 n1 c1 ((z) + -(z')) ((k) + (k') + 1) ?_ ?_).mono ?_); (exact h1.iz); (first | omega | decide | assumption); rintro e w2 ⟨rfl, hb2⟩
  have q2 : Below w1.heap.size w1 w2 := hb2
  replace h := h.belw q2
  replace h' := h'.belw q2
  replace h1 := h1.belw q2
  replace x1_0 := x1_0.below q2 x1_0.lt
  replace x1_1 := x1_1.below q2 x1_1.lt
  have bw2 : Below w.heap.size w w2 := bw1.trans (q2.mono bw1.size)
  have lw2 : w1.heap.size ≤ w2.heap.size := q2.size
  clear hb2 q2 bw1
  go_wp2_with fail
  go_ret
  exact retI (cmpI_sub _ _) bw2
end Go.Proofs.YtpnnfbodphflpaaGreatDoor

/- Walks: the reference's Div, of a dividend that is not negative or that the divisor divides. -/
namespace Go.Proofs.YtpnnfbodphflpaaGreatDoor
open Go Go.RowKit Bn
attribute [local go_sem ↓] Go.wp_at_zero Go.wp_at_succ
theorem r_neg_e (w : World) (b : Bool) (A : Option Addr) (n c : Nat) (l : List Nat) (s : Bool) (wa : Wd w A n c l) (hn : n ≤ 1099511627776) (hs : WD.s ⟨b, l⟩ = s) :
    Calls Tryz.prog 74 #[.agg #[.bool b, .slice A n c]] w (RetV w (.bool s)) := by subst hs; exact r_neg_c w b A n c l wa hn
theorem r_sign_x (w : World) (b : Bool) (A : Option Addr) (n c : Nat) (l : List Nat) (s : Int) (wa : Wd w A n c l) (hn : n ≤ 1099511627000) (hs : (WD.z ⟨b, l⟩).sign = s) :
    Calls Tryz.prog 94 #[.agg #[.bool b, .slice A n c]] w (RetV w (.int .i64 s)) := by subst hs; exact r_sign_c w b A n c l wa hn
theorem r_divide_e (w : World) (A : Option Addr) (n c : Nat) (l : List Nat) (wa : Wd w A n c l) (hn : n ≤ 1000000000000) (A' : Option Addr) (n' c' : Nat) (l' : List Nat) (wb : Wd w A' n' c' l') (hn' : n' ≤ 1000000000000) (x y : Nat) (hx : val l = x) (hy : val l' = y) (h0 : y ≠ 0) :
    Calls Tryz.prog 158 #[.slice A n c, .slice A' n' c'] w (RetD w x y) := by subst hx hy; exact r_divide_c w A n c l wa hn A' n' c' l' wb hn' h0
/-- What Div returns. -/
def RetDivR (w : World) (q r : Int) (e : Ending) (w' : World) : Prop := ∃ A1 n1 c1 A2 n2 c2, e = .returned (.tuple #[.agg #[.bool (wh q).neg, .slice A1 n1 c1], .agg #[.bool (wh r).neg, .slice A2 n2 c2], .int .i64 0]) ∧ Wd w' A1 n1 c1 (wh q).mag ∧ Wd w' A2 n2 c2 (wh r).mag ∧ Below w.heap.size w w'
set_option maxHeartbeats 4000000 in
/-- linkworkref01.Div -/
theorem r_div_C (w : World) (b : Bool) (A : Option Addr) (n c : Nat) (l : List Nat) (wa : Wd w A n c l) (hn : n ≤ 1000000000000) (b' : Bool) (A' : Option Addr) (n' c' : Nat) (l' : List Nat) (wb : Wd w A' n' c' l') (hn' : n' ≤ 1000000000000) (h0 : WD.z ⟨b', l'⟩ ≠ 0) (hr0 : WD.z ⟨b, l⟩ % WD.z ⟨b', l'⟩ = 0) :
    Calls Tryz.prog 132 #[.agg #[.bool b, .slice A n c], .agg #[.bool b', .slice A' n' c']] w (RetDivR w (WD.z ⟨b, l⟩ / WD.z ⟨b', l'⟩) (WD.z ⟨b, l⟩ % WD.z ⟨b', l'⟩)) := by
  have HL := Lib.hid wa.2.1
  have HL' := Lib.hid wb.2.1
  obtain ⟨s0, hs0'⟩ : ∃ s, (WD.z ⟨b', l'⟩).sign = s := ⟨_, rfl⟩
  have es0 : ((s0 : Int) == 0) = false := by simp; rintro rfl; exact h0 (Int.sign_eq_zero_iff_zero.1 hs0')
  have HSG := Lib.hid hs0'
  clear hs0'
  have hd0 : val (WD.m ⟨b', l'⟩) ∣ val (WD.m ⟨b, l⟩) := by
    rw [← z_nat ⟨b, l⟩, ← z_nat ⟨b', l'⟩]
    exact Int.natAbs_dvd_natAbs.2 (Int.dvd_of_emod_eq_zero hr0)
  rw [WD.z_eq] at h0 ⊢
  rw [WD.z_eq ⟨b', l'⟩]
  have hv2 : val (WD.m ⟨b', l'⟩) ≠ 0 := by intro e; rw [e] at h0; exact h0 (by cases (WD.s ⟨b', l'⟩) <;> rfl)
  obtain ⟨sa, hsa⟩ : ∃ s, WD.s ⟨b, l⟩ = s := ⟨_, rfl⟩
  obtain ⟨sb, hsb⟩ : ∃ s, WD.s ⟨b', l'⟩ = s := ⟨_, rfl⟩
  rw [hsa, hsb]
  obtain ⟨x, hx⟩ : ∃ x, val (WD.m ⟨b, l⟩) = x := ⟨_, rfl⟩
  obtain ⟨y, hy⟩ : ∃ y, val (WD.m ⟨b', l'⟩) = y := ⟨_, rfl⟩
  rw [hx, hy]
  rw [hx, hy] at hd0
  have HS := Lib.hid (And.intro hsa hsb)
  have HX := Lib.hid (And.intro hx hy)
  have HY := Lib.hid (show y ≠ 0 from hy ▸ hv2)
  have HR0 := Lib.hid (Nat.mod_eq_zero_of_dvd hd0)
  clear hsa hsb hx hy hv2 h0 hr0 hd0
  go_enter Tryz.func132, Tryz.ntmps132
  go_wp2_with fail
  have b0 : Below w.heap.size w ((((w.alloc (.cells #[.bool b, .slice A n c] 48)).alloc (.cells #[.bool b', .slice A' n' c'] 48)).alloc (.cells #[.bool false, .slice none 0 0] 48)).alloc (.cells #[.bool false, .slice none 0 0] 48)) := (((((Below.refl _ _).alloc (Nat.le_refl _) _).alloc (by simp) _).alloc (by simp; omega) _).alloc (by simp; omega) _)
  generalize hW0 : ((((w.alloc (.cells #[.bool b, .slice A n c] 48)).alloc (.cells #[.bool b', .slice A' n' c'] 48)).alloc (.cells #[.bool false, .slice none 0 0] 48)).alloc (.cells #[.bool false, .slice none 0 0] 48)) = W0 at b0 ⊢
  have c00 : W0.cell? ⟨w.heap.size, 0, none⟩ = some (.bool b) := by subst hW0; simp [go_sem]
  have f00 : W0.frozen? ⟨w.heap.size, 0, none⟩ = false := by subst hW0; simp [go_sem]
  have c01 : W0.cell? ⟨w.heap.size, 1, none⟩ = some (.slice A n c) := by subst hW0; simp [go_sem]
  have f01 : W0.frozen? ⟨w.heap.size, 1, none⟩ = false := by subst hW0; simp [go_sem]
  have c10 : W0.cell? ⟨w.heap.size + 1, 0, none⟩ = some (.bool b') := by subst hW0; simp [go_sem]
  have f10 : W0.frozen? ⟨w.heap.size + 1, 0, none⟩ = false := by subst hW0; simp [go_sem]
  have c11 : W0.cell? ⟨w.heap.size + 1, 1, none⟩ = some (.slice A' n' c') := by subst hW0; simp [go_sem]
  have f11 : W0.frozen? ⟨w.heap.size + 1, 1, none⟩ = false := by subst hW0; simp [go_sem]
  have c20 : W0.cell? ⟨w.heap.size + 1 + 1, 0, none⟩ = some (.bool false) := by subst hW0; simp [go_sem]
  have f20 : W0.frozen? ⟨w.heap.size + 1 + 1, 0, none⟩ = false := by subst hW0; simp [go_sem]
  have c21 : W0.cell? ⟨w.heap.size + 1 + 1, 1, none⟩ = some (.slice none 0 0) := by subst hW0; simp [go_sem]
  have f21 : W0.frozen? ⟨w.heap.size + 1 + 1, 1, none⟩ = false := by subst hW0; simp [go_sem]
  have c30 : W0.cell? ⟨w.heap.size + 1 + 1 + 1, 0, none⟩ = some (.bool false) := by subst hW0; simp [go_sem]
  have f30 : W0.frozen? ⟨w.heap.size + 1 + 1 + 1, 0, none⟩ = false := by subst hW0; simp [go_sem]
  have c31 : W0.cell? ⟨w.heap.size + 1 + 1 + 1, 1, none⟩ = some (.slice none 0 0) := by subst hW0; simp [go_sem]
  have f31 : W0.frozen? ⟨w.heap.size + 1 + 1 + 1, 1, none⟩ = false := by subst hW0; simp [go_sem]
  have x0 : Box W0 (w.heap.size) 48 := by subst hW0; exact (((boxAt _ _ _ (by simp)).alloc _).alloc _).alloc _
  have x1 : Box W0 (w.heap.size + 1) 48 := by subst hW0; exact ((boxAt _ _ _ (by simp)).alloc _).alloc _
  have x2 : Box W0 (w.heap.size + 1 + 1) 48 := by subst hW0; exact (boxAt _ _ _ (by simp)).alloc _
  have x3 : Box W0 (w.heap.size + 1 + 1 + 1) 48 := by subst hW0; exact boxAt _ _ _ (by simp)
  have hm0 : Made (w.heap.size + 1 + 1) (w.heap.size + 1 + 1 + 1 + 1) 2 W0 := by subst hW0; exact made2 (by simp) rfl
  have hs0 : w.heap.size + 1 + 1 + 1 + 1 ≤ W0.heap.size := by subst hW0; simp
  clear hW0
  have wa := wa.belw b0
  have wb := wb.belw b0
  have r0 : Below W0.heap.size W0 W0 := brefl _
  go_wp2_with (first
    | (go_at_call 94; (with_reducible refine (r_sign_x _ b' A' n' c' l' s0 ?_ ?_ ?_).mono ?_); (exact wb); (omega); (exact HSG.out); rintro e w1 ⟨rfl, hb1⟩; have r1 := bnext r0 hb1; replace wa := wa.belw hb1; replace wb := wb.belw hb1; (try clear sc sf sr sz); obtain ⟨⟨sc, sf⟩, sr, sz⟩ := Seen.of (by omega) hs0 hm0 r1))
  (try clear sc sf sr sz)
  have hRB : w.heap.size + 1 + 1 ≤ w.heap.size + 1 + 1 + 1 + 1 := by omega
  go_region_held3 (fun w' => Sees (w.heap.size + 1 + 1) W0 w') (first | exact Sees.of (Nat.le_trans hRB hs0) (by assumption) | exact Sees.of (Nat.le_trans hRB hs0) (below_drewN (by assumption) _))
    (first
      | (go_at_call 72; (with_reducible refine (r_mag_c _ b A n c l ?_ ?_).mono ?_); (exact wa); (omega); rintro e w2 ⟨A2, n2, c2, rfl, h2, hb2⟩; replace hb2 := bnext (below_drewN (brefl _) 1) hb2; have r2 := bnext r1 hb2; replace wa := wa.belw hb2; replace wb := wb.belw hb2)
      | (go_at_call 72; (with_reducible refine (r_mag_c _ b' A' n' c' l' ?_ ?_).mono ?_); (exact wb); (omega); rintro e w3 ⟨A3, n3, c3, rfl, h3, hb3⟩; have r3 := bnext r2 hb3; replace wa := wa.belw hb3; replace wb := wb.belw hb3; replace h2 := h2.belw hb3)
      | (go_at_call 158; (with_reducible refine (r_divide_e _ A2 n2 c2 (WD.m ⟨b, l⟩) ?_ ?_ A3 n3 c3 (WD.m ⟨b', l'⟩) ?_ ?_ x y ?_ ?_ ?_).mono ?_); (exact h2); (exact h2.m_len (by rw [← HL.out]; exact hn)); (exact h3); (exact h3.m_len (by rw [← HL'.out]; exact hn')); (exact HX.out.1); (exact HX.out.2); (exact HY.out); rintro e w4 ⟨A4, n4, c4, A5, n5, c5, rfl, h4, h5, hb4⟩; have r4 := bnext r3 hb4; replace wa := wa.belw hb4; replace wb := wb.belw hb4; replace h2 := h2.belw hb4; replace h3 := h3.belw hb4))
  obtain ⟨⟨sc, sf⟩, sr, sz⟩ := Seen.of (by omega) hs0 hm0 r4
  clear hRB
  have hn4 : n4 ≤ 1000000000000 := by
    rw [h4.2.1]; exact dlen (Nat.lt_of_le_of_lt (Nat.div_le_self _ _) (HX.out.1 ▸ h2.vlt (Nat.le_refl _))) (h2.m_len (by rw [← HL.out]; exact hn))
  have hn5 : n5 = 0 := by rw [h5.2.1, HR0.out, digs_zero]; rfl
  subst hn5
  cases sa
  · go_wp2_with (first
      | (go_at_call 74; (with_reducible refine (r_neg_e _ b A n c l false ?_ ?_ ?_).mono ?_); (exact wa); (omega); (exact HS.out.1); rintro e w5 ⟨rfl, hb5⟩; have r5 := bnext r4 hb5; replace wa := wa.belw hb5; replace wb := wb.belw hb5; replace h2 := h2.belw hb5; replace h3 := h3.belw hb5; replace h4 := h4.belw hb5; replace h5 := h5.belw hb5; (try clear sc sf sr sz); obtain ⟨⟨sc, sf⟩, sr, sz⟩ := Seen.of (by omega) hs0 hm0 r5))
    have HZ := Lib.hid (div_plain (sa := false) (sb := sb) (x := x) HY.out (.inr HR0.out))
    (try clear sc sf sr sz)
    have hRB : w.heap.size + 1 + 1 ≤ w.heap.size + 1 + 1 + 1 + 1 := by omega
    go_region_held3 (fun w' => Sees (w.heap.size + 1 + 1) W0 w') (first | exact Sees.of (Nat.le_trans hRB hs0) (by assumption) | exact Sees.of (Nat.le_trans hRB hs0) (below_drewN (by assumption) _) | exact (Sees.set (Sees.of (Nat.le_trans hRB hs0) (by assumption)) (by simp)) | exact (Sees.set (Sees.set (Sees.of (Nat.le_trans hRB hs0) (by assumption)) (by simp)) (by simp)) | exact (Sees.set (Sees.set (Sees.set (Sees.of (Nat.le_trans hRB hs0) (by assumption)) (by simp)) (by simp)) (by simp)) | exact (Sees.set (Sees.set (Sees.set (Sees.set (Sees.of (Nat.le_trans hRB hs0) (by assumption)) (by simp)) (by simp)) (by simp)) (by simp)))
      (first
        | (go_at_call 74; (with_reducible refine (r_neg_e _ b A n c l false ?_ ?_ ?_).mono ?_); (exact wa); (omega); (exact HS.out.1); rintro e w6 ⟨rfl, hb6⟩; replace hb6 := bnext (below_drewN (brefl _) 1) hb6; have r6 := bnext r5 hb6; replace wa := wa.belw hb6; replace wb := wb.belw hb6; replace h2 := h2.belw hb6; replace h3 := h3.belw hb6; replace h4 := h4.belw hb6; replace h5 := h5.belw hb6)
        | (go_at_call 74; (with_reducible refine (r_neg_e _ b' A' n' c' l' sb ?_ ?_ ?_).mono ?_); (exact wb); (omega); (exact HS.out.2); rintro e w7 ⟨rfl, hb7⟩; have r7 := bnext r6 hb7; replace wa := wa.belw hb7; replace wb := wb.belw hb7; replace h2 := h2.belw hb7; replace h3 := h3.belw hb7; replace h4 := h4.belw hb7; replace h5 := h5.belw hb7)
        | (go_at_call 65; (with_reducible refine (r_form_e _ sb A4 n4 c4 (digs (x / y)) (sgn false x / sgn sb y) ?_ ?_ ?_).mono ?_); (exact h4); (omega); (rw [HZ.out.1, val_digs]; cases sb <;> rfl); rintro e w8 ⟨A8, n8, c8, rfl, h8, hb8⟩; have r8 := bnext r7 hb8; replace wa := wa.belw hb8; replace wb := wb.belw hb8; replace h2 := h2.belw hb8; replace h3 := h3.belw hb8; replace h4 := h4.belw hb8; replace h5 := h5.belw hb8)
        | (go_at_call 65; (with_reducible refine (r_form_e _ false A5 0 c5 (digs (x % y)) (sgn false x % sgn sb y) ?_ ?_ ?_).mono ?_); (exact h5); (omega); (rw [HZ.out.2, val_digs]; rfl); rintro e w9 ⟨A9, n9, c9, rfl, h9, hb9⟩; have r9 := bnext r8 hb9; replace wa := wa.belw hb9; replace wb := wb.belw hb9; replace h2 := h2.belw hb9; replace h3 := h3.belw hb9; replace h4 := h4.belw hb9; replace h5 := h5.belw hb9; replace h8 := h8.belw hb9; obtain ⟨⟨sc, sf⟩, sr, sz⟩ := Seen.of (by omega) hs0 hm0 r9))
    clear hRB
    go_wp2_with fail
    refine bodyPost_ret (v := .tuple #[.agg #[.bool _, .slice A8 n8 c8], .agg #[.bool _, .slice A9 n9 c9], .int .i64 0]) (by simp [results, Tryz.results132, go_sem, sr]; first | rfl | exact ⟨rfl, rfl⟩) rfl ?_
    have y2 := x2.below r9
    have y3 := x3.below r9
    refine ⟨A8, n8, c8, A9, n9, c9, rfl, ?_, ?_, ?_⟩
    · exact h8.keep (kp4 y2 y3 (by decide) (by decide) _ _ _ _ _ _ _ _)
    · exact h9.keep (kp4 y2 y3 (by decide) (by decide) _ _ _ _ _ _ _ _)
    · exact ((((b0.trans (r9.mono b0.size)).setCell (by dsimp only; omega) _).setCell (by dsimp only; omega) _).setCell (by dsimp only; omega) _).setCell (by dsimp only; omega) _
  · go_wp2_with (first
      | (go_at_call 74; (with_reducible refine (r_neg_e _ b A n c l true ?_ ?_ ?_).mono ?_); (exact wa); (omega); (exact HS.out.1); rintro e w5 ⟨rfl, hb5⟩; have r5 := bnext r4 hb5; replace wa := wa.belw hb5; replace wb := wb.belw hb5; replace h2 := h2.belw hb5; replace h3 := h3.belw hb5; replace h4 := h4.belw hb5; replace h5 := h5.belw hb5; (try clear sc sf sr sz); obtain ⟨⟨sc, sf⟩, sr, sz⟩ := Seen.of (by omega) hs0 hm0 r5))
    have HZ := Lib.hid (div_plain (sa := true) (sb := sb) (x := x) HY.out (.inr HR0.out))
    (try clear sc sf sr sz)
    have hRB : w.heap.size + 1 + 1 ≤ w.heap.size + 1 + 1 + 1 + 1 := by omega
    go_region_held3 (fun w' => Sees (w.heap.size + 1 + 1) W0 w') (first | exact Sees.of (Nat.le_trans hRB hs0) (by assumption) | exact Sees.of (Nat.le_trans hRB hs0) (below_drewN (by assumption) _) | exact (Sees.set (Sees.of (Nat.le_trans hRB hs0) (by assumption)) (by simp)) | exact (Sees.set (Sees.set (Sees.of (Nat.le_trans hRB hs0) (by assumption)) (by simp)) (by simp)) | exact (Sees.set (Sees.set (Sees.set (Sees.of (Nat.le_trans hRB hs0) (by assumption)) (by simp)) (by simp)) (by simp)) | exact (Sees.set (Sees.set (Sees.set (Sees.set (Sees.of (Nat.le_trans hRB hs0) (by assumption)) (by simp)) (by simp)) (by simp)) (by simp)))
      (first
        | (go_at_call 74; (with_reducible refine (r_neg_e _ b A n c l true ?_ ?_ ?_).mono ?_); (exact wa); (omega); (exact HS.out.1); rintro e w6 ⟨rfl, hb6⟩; replace hb6 := bnext (below_drewN (brefl _) 1) hb6; have r6 := bnext r5 hb6; replace wa := wa.belw hb6; replace wb := wb.belw hb6; replace h2 := h2.belw hb6; replace h3 := h3.belw hb6; replace h4 := h4.belw hb6; replace h5 := h5.belw hb6)
        | (go_at_call 74; (with_reducible refine (r_neg_e _ b' A' n' c' l' sb ?_ ?_ ?_).mono ?_); (exact wb); (omega); (exact HS.out.2); rintro e w7 ⟨rfl, hb7⟩; have r7 := bnext r6 hb7; replace wa := wa.belw hb7; replace wb := wb.belw hb7; replace h2 := h2.belw hb7; replace h3 := h3.belw hb7; replace h4 := h4.belw hb7; replace h5 := h5.belw hb7)
        | (go_at_call 65; (with_reducible refine (r_form_e _ (!sb) A4 n4 c4 (digs (x / y)) (sgn true x / sgn sb y) ?_ ?_ ?_).mono ?_); (exact h4); (omega); (rw [HZ.out.1, val_digs]; cases sb <;> rfl); rintro e w8 ⟨A8, n8, c8, rfl, h8, hb8⟩; have r8 := bnext r7 hb8; replace wa := wa.belw hb8; replace wb := wb.belw hb8; replace h2 := h2.belw hb8; replace h3 := h3.belw hb8; replace h4 := h4.belw hb8; replace h5 := h5.belw hb8)
        | (go_at_call 65; (with_reducible refine (r_form_e _ false A5 0 c5 (digs (x % y)) (sgn true x % sgn sb y) ?_ ?_ ?_).mono ?_); (exact h5); (omega); (rw [HZ.out.2, val_digs]; rfl); rintro e w9 ⟨A9, n9, c9, rfl, h9, hb9⟩; have r9 := bnext r8 hb9; replace wa := wa.belw hb9; replace wb := wb.belw hb9; replace h2 := h2.belw hb9; replace h3 := h3.belw hb9; replace h4 := h4.belw hb9; replace h5 := h5.belw hb9; replace h8 := h8.belw hb9; obtain ⟨⟨sc, sf⟩, sr, sz⟩ := Seen.of (by omega) hs0 hm0 r9))
    clear hRB
    go_wp2_with fail
    refine bodyPost_ret (v := .tuple #[.agg #[.bool _, .slice A8 n8 c8], .agg #[.bool _, .slice A9 n9 c9], .int .i64 0]) (by simp [results, Tryz.results132, go_sem, sr]; first | rfl | exact ⟨rfl, rfl⟩) rfl ?_
    have y2 := x2.below r9
    have y3 := x3.below r9
    refine ⟨A8, n8, c8, A9, n9, c9, rfl, ?_, ?_, ?_⟩
    · exact h8.keep (kp4 y2 y3 (by decide) (by decide) _ _ _ _ _ _ _ _)
    · exact h9.keep (kp4 y2 y3 (by decide) (by decide) _ _ _ _ _ _ _ _)
    · exact ((((b0.trans (r9.mono b0.size)).setCell (by dsimp only; omega) _).setCell (by dsimp only; omega) _).setCell (by dsimp only; omega) _).setCell (by dsimp only; omega) _
theorem r01_div (w : World) (b : Bool) (A : Option Addr) (n c : Nat) (z : Int) (k : Nat) (h : IZ w b A n c z k) (b' : Bool) (A' : Option Addr) (n' c' : Nat) (z' : Int) (k' : Nat) (h' : IZ w b' A' n' c' z' k') (hk : k + k' ≤ 1000000000) (h0 : z' ≠ 0) (hr : z % z' = 0) : Calls Tryz.prog 132 #[.agg #[.bool b, .slice A n c], .agg #[.bool b', .slice A' n' c']] w (RetDv w (.int .i64 0) (z / z') (z % z') (k + k')) := by
  have hz := h.mono (Nat.le_add_right k k') |>.lt
  have hz' := h'.mono (Nat.le_add_left k' k) |>.lt
  obtain ⟨l, h1, rfl, h3⟩ := h
  obtain ⟨l', h1', rfl, h3'⟩ := h'
  refine (r_div_C w b A n c l h1 (by omega) b' A' n' c' l' h1' (by omega) h0 hr).mono fun _ _ r => ?_
  obtain ⟨A1, n1, c1, A2, n2, c2, rfl, r1, r2, r3⟩ := r
  refine ⟨_, A1, n1, c1, _, A2, n2, c2, rfl, IV.mk_ r1 rfl ?_, IV.mk_ r2 rfl ?_, r3⟩
  · exact Nat.lt_of_le_of_lt (Int.natAbs_ediv_le_natAbs _ _) hz
  · have e1 := Int.emod_nonneg (WD.z ⟨b, l⟩) h0
    have e2 := Int.emod_lt (WD.z ⟨b, l⟩) h0
    omega
end Go.Proofs.YtpnnfbodphflpaaGreatDoor

/- Walks: linkworkref01.Text. -/
namespace Go.Proofs.YtpnnfbodphflpaaGreatDoor
open Go Go.RowKit Bn

/-- One digit of the list of digits. -/
theorem dgI_done0 {N k r : Nat} {s : List UInt8} (h : DgI N 0 k r s) (hr : ¬ 0 < r) : Lib.decDigits N = dg 0 ++ s := by
  have : r = 0 := by omega
  subst this
  exact h.done0
def dch (d : Nat) : UInt8 := UInt8.ofNat (48 + d)
theorem digit_cut {d : Nat} (h : d < 10) : (⟨#[48, 49, 50, 51, 52, 53, 54, 55, 56, 57]⟩ : ByteArray).extract d (d + 1) = ⟨[dch d].toArray⟩ := by
  have : ∀ d : Fin 10, (⟨#[48, 49, 50, 51, 52, 53, 54, 55, 56, 57]⟩ : ByteArray).extract d (d + 1) = ⟨[UInt8.ofNat (48 + d)].toArray⟩ := by decide
  exact this ⟨d, h⟩
theorem neg_r (w : World) (b : Bool) (A : Option Addr) (n c : Nat) (l : List Nat) (f : Bool) (wa : Wd w A n c l) (hn : n ≤ 1000000000) (hf : WD.s ⟨b, l⟩ = f) :
    Calls Tryz.prog 74 #[.agg #[.bool b, .slice A n c]] w (RetV w (.bool f)) := r_neg_e w b A n c l f wa (by omega) hf
/-- How the loop of the reference's Text stands. -/
def RTextI (M : Nat) (W0 wr : World) (m sv : Value) : Prop := ∃ A1 n1 c1 q s, m = .slice A1 n1 c1 ∧ sv = strV s ∧ n1 ≤ 1000000000 ∧ Kept (Wd wr A1 n1 c1 (digs q) ∧ Lib.decDigits M = dg q ++ s) ∧ Below W0.heap.size W0 wr
/-- How the loop over one group's digits stands. -/
def RGrpI (M q : Nat) (sv rv kv : Value) : Prop := ∃ k r s, sv = strV s ∧ rv = .int .u64 (r : Nat) ∧ kv = .int .i64 (k : Nat) ∧ k ≤ 9 ∧ r < 1000000000 ∧ Kept (DgI M q k r s)
set_option maxRecDepth 100000 in
set_option maxHeartbeats 4000000 in
/-- linkworkref01.Text -/
theorem r_text_C (w : World) (b : Bool) (A : Option Addr) (n c : Nat) (l : List Nat) (wa : Wd w A n c l) (hn : n ≤ 1000000000) :
    Calls Tryz.prog 26 #[.agg #[.bool b, .slice A n c]] w (RetV w (strV (Lib.itoa (WD.z ⟨b, l⟩)))) := by
  have HL := Lib.hid wa.2.1
  have hcm : Canon (WD.m ⟨b, l⟩) := WD.canon_m wa.1
  obtain ⟨M, hM⟩ : ∃ M, WD.m ⟨b, l⟩ = digs M := ⟨_, (digs_val hcm).symm⟩
  have hab : (WD.z ⟨b, l⟩).natAbs = M := by rw [z_nat, hM, val_digs]
  obtain ⟨T, hT⟩ : ∃ T, T = Lib.itoa (WD.z ⟨b, l⟩) := ⟨_, rfl⟩
  rw [itoa_abs, hab] at hT
  rw [itoa_abs, hab, ← hT]
  have HT := Lib.hid hT
  have HM := Lib.hid hM
  have HA := Lib.hid hab
  clear hT hM hab hcm
  have b0 : Below w.heap.size w (w.alloc (.cells #[.bool b, .slice A n c] 48)) := (Below.refl _ _).alloc (Nat.le_refl _) _
  have x0 : Blk (w.alloc (.cells #[.bool b, .slice A n c] 48)) w.heap.size 48 #[.bool b, .slice A n c] := blkAt _ _ _ rfl
  by_cases hM0 : M = 0
  · subst hM0
    have hz : (WD.z ⟨b, l⟩) < 0 → False := by have := HA.out; omega
    have hT0 : T = [48] := by rw [HT.out, if_neg (fun h => hz h)]; exact Lib.decDigits_one (by omega)
    subst hT0
    go_enter Tryz.func26, Tryz.ntmps26
    go_wp2_with (go_at_call 72; (with_reducible refine (r_mag_c _ b A n c l ?_ ?_).mono ?_); (exact wa.belw b0); (omega); rintro e w1 ⟨A1, n1, c1, rfl, h1, hb1⟩; rw [HM.out, digs_zero] at h1; obtain rfl : n1 = 0 := h1.2.1)
    go_ret
    exact ⟨rfl, b0.trans (hb1.mono b0.size)⟩
  · have hMp : 0 < M := Nat.pos_of_ne_zero hM0
    have HMP := Lib.hid hMp
    clear hM0 hMp
    go_enter Tryz.func26, Tryz.ntmps26
    go_wp2_with (go_at_call 72; (with_reducible refine (r_mag_c _ b A n c l ?_ ?_).mono ?_); (exact wa.belw b0); (omega); rintro e w1 ⟨A1, n1, c1, rfl, h1, hb1⟩; have hn1 : n1 ≤ 1000000000 := h1.m_len (by rw [← HL.out]; exact hn); rw [HM.out] at h1; have e1 : ((n1 : Int) == 0) = false := (by have h9 : n1 ≠ 0 := (fun e => by have h8 := h1.2.1; rw [e] at h8; exact absurd (digs_eq_nil.1 (List.eq_nil_of_length_eq_zero h8.symm)) (by have := HMP.out; omega)); simp; exact h9))
    clear e1
    go_loopw [3, 4] (fun mv sv wr => RTextI M w1 wr mv sv) (fun mv _ wr => valOf wr mv)
    case atStart => exact ⟨A1, n1, c1, M, [], rfl, rfl, hn1, ⟨h1, by rw [dg_pos HMP.out]; simp⟩, brefl _⟩
    case round =>
      obtain ⟨wo, hwo⟩ : ∃ x, x = wr := ⟨_, rfl⟩
      subst hwo
      obtain ⟨A3, n3, c3, q, s, rfl, rfl, hn3, hK, rr⟩ := hrel
      have hm5 : valOf wo (.slice A3 n3 c3) = q := by rw [hK.1.valOf, val_digs]
      have hnd : Lib.nDigits M ≤ 10 * 1000000000 := nDig_words' hn1 (by omega) (by have := h1.vlt (Nat.le_refl _); rw [val_digs] at this; exact this)
      have hln := dg_len hK.2
      have x1 : Blk w1 w.heap.size 48 #[.bool b, .slice A n c] := x0.below hb1 (by simp)
      have x2 := x1.below rr x1.lt
      have bw := ((b0.trans (hb1.mono b0.size)).trans (rr.mono (by have := hb1.size; have := b0.size; omega)))
      by_cases hq0 : q = 0
      · subst hq0
        have h0 : n3 = 0 := by have := hK.1.2.1; rw [digs_zero] at this; exact this
        subst h0
        have hps : Lib.decDigits M = s := by have := hK.2; rw [dg_zero] at this; exact this
        obtain ⟨cx0, cx1⟩ := x2.c2
        have HP := Lib.hid hps
        have HA2 := Lib.hid (show (WD.z ⟨b, l⟩) = sgn (WD.s ⟨b, l⟩) M by rw [WD.z_eq, HM.out, val_digs])
        have hsz : (⟨s.toArray⟩ : ByteArray).size ≤ 10000000000 := by show s.length ≤ _; omega
        clear hps x1 x2
        cases hs : WD.s ⟨b, l⟩
        · have HS := Lib.hid hs
          have HT2 := Lib.hid (show T = s by rw [HT.out, HP.out, HA2.out, hs, if_neg (by simp [sgn])]; rfl)
          clear hs
          go_wp2_with (go_at_call 74; (with_reducible refine (neg_r _ b A n c l false ?_ ?_ HS.out).mono ?_); (exact wa.belw bw); omega; rintro e w3 ⟨rfl, hb3⟩)
          go_ret
          exact ⟨by rw [HT2.out]; rfl, bw.trans (hb3.mono bw.size)⟩
        · have HS := Lib.hid hs
          have HT2 := Lib.hid (show T = 45 :: s by rw [HT.out, HP.out, HA2.out, hs, if_pos (by simp [sgn]; have := HMP.out; omega)]; rfl)
          clear hs
          go_wp2_with (go_at_call 74; (with_reducible refine (neg_r _ b A n c l true ?_ ?_ HS.out).mono ?_); (exact wa.belw bw); omega; rintro e w3 ⟨rfl, hb3⟩)
          go_ret
          refine ⟨?_, bw.trans (hb3.mono bw.size)⟩
          rw [HT2.out]
          exact congrArg (fun x => Ending.returned (.string x)) (cat_v [45] s)
      · have hqp : 0 < q := Nat.pos_of_ne_zero hq0
        have hn30 : n3 ≠ 0 := fun e => hq0 (digs_eq_nil.1 (List.eq_nil_of_length_eq_zero (by rw [← hK.1.2.1]; exact e)))
        have hn3p : 0 < n3 := by omega
        have HL3 := Lib.hid hK.1.2.1
        have HQP := Lib.hid hqp
        obtain ⟨lq, hlq⟩ : ∃ lq, digs q = lq := ⟨_, rfl⟩
        have HLQ := Lib.hid hlq
        have hvq : val lq = q := by rw [← hlq, val_digs]
        have HVQ := Lib.hid hvq
        have hw3 := hK.1
        rw [hlq] at hw3 HL3
        clear hq0 hqp hn30 hlq hvq x1
        go_wp2_with (at_make; refine wpList_make_words _ rfl _ _ rfl _ _ _ _ n3 rfl rfl (by omega) (by omega) (by omega) ?_)
        go_loopw [5, 7] (fun rv iv wx => ∃ (k r : Nat) (L : List Nat), k ≤ n3 ∧ iv = .int .i64 ((k : Int) - 1) ∧ rv = .int .u64 (r : Nat) ∧ r < 1000000000 ∧ L.length = n3 ∧ ShortI lq L 1000000000 k r ∧ Blk wx wo.heap.size 84 (cellsOf L) ∧ Below wo.heap.size wo wx) (fun _ iv _ => (intOf iv + 1).toNat)
        case atStart => exact ⟨n3, 0, List.replicate n3 0, Nat.le_refl _, rfl, rfl, by omega, by simp, ⟨by intro x hx; rw [List.eq_of_mem_replicate hx]; omega, by omega, by rw [HL3.out]; simp [val]⟩, Blk.new _ _ _, (Below.refl _ _).alloc (Nat.le_refl _) _⟩
        case round =>
          obtain ⟨k, r, L, hk, rfl, rfl, hr, hLM, hI, hB, hbel⟩ := hrel
          have HI := Lib.hid hI
          have HB := Lib.hid hB
          have HLM := Lib.hid hLM
          clear hI hB hLM
          by_cases hk0 : k = 0
          · subst hk0
            have h1' := HI.out.2.2
            simp only [List.drop_zero] at h1'
            have hq' : val lq / 1000000000 = val L := by
              rw [h1', Nat.mul_add_div (by omega), Nat.div_eq_of_lt HI.out.2.1, Nat.add_zero]
            have hm' : val lq % 1000000000 = r := by rw [h1']; rw [Nat.mul_add_mod]; exact Nat.mod_eq_of_lt HI.out.2.1
            rw [HVQ.out] at hq' hm'
            have hst := DgI.start hK.2
            rw [hm', hq'] at hst
            obtain ⟨q', hqq⟩ : ∃ q', val L = q' := ⟨_, rfl⟩
            rw [hqq] at hst hq'
            have HQ := Lib.hid (And.intro hq' hm')
            have HQQ := Lib.hid hqq
            have HST := Lib.hid hst
            clear hq' hm' h1' hqq hst
            go_wp2_with (go_at_call 73; (with_reducible refine (r_trim_c _ _ n3 n3 L ?_ ?_).mono ?_); (exact HB.out.wdN HI.out.1 HLM.out); omega; rintro e w4 ⟨A4, n4, c4, rfl, h4, hb4⟩; rw [HQQ.out] at h4)
            have hn4 : n4 ≤ 1000000000 := by
              rw [h4.2.1]
              exact Nat.le_trans (length_digs_le (Nat.lt_of_le_of_lt (by rw [← HQ.out.1]; exact Nat.div_le_self _ _) (by have := hK.1.vlt (Nat.le_refl _); rw [val_digs] at this; exact this))) hn3
            have H4 := Lib.hid h4
            have HLT := Lib.hid (show q' < q by rw [← HQ.out.1]; exact Nat.div_lt_self HQP.out (by omega))
            have hb5 : Below wo.heap.size wo w4 := hbel.trans (hb4.mono hbel.size)
            clear h4
            go_loop [4, 5, 8] (fun sv rv kv => RGrpI M q' sv rv kv) (fun _ _ kv => 9 - (intOf kv).toNat)
            case atStart => exact ⟨0, r, s, rfl, rfl, rfl, by omega, hr, HST.out⟩
            case round =>
              obtain ⟨j, r1, s1, rfl, rfl, rfl, hj, hr1, hG⟩ := hrel
              have hl1 := hG.len
              have hsz : (⟨s1.toArray⟩ : ByteArray).size ≤ 10000000000 := by show s1.length ≤ _; omega
              by_cases hj9 : j = 9
              · subst hj9
                go_wp2
                go_roundw
                case rel => exact ⟨A4, n4, c4, q', s1, rfl, rfl, hn4, ⟨H4.out, hG.done9⟩, rr.trans (hb5.mono rr.size)⟩
                case measure => rw [H4.out.valOf, hm5, val_digs]; exact HLT.out
              · have hj8 : j < 9 := by omega
                obtain ⟨d, hd⟩ : ∃ d, r1 % 10 = d := ⟨_, rfl⟩
                obtain ⟨r2, hr2⟩ : ∃ r2, r1 / 10 = r2 := ⟨_, rfl⟩
                have hd10 : d < 10 := by omega
                have e1 : (r1 : Int) % 10 = (d : Int) := by omega
                have e2 : (r1 : Int) / 10 = (r2 : Int) := by omega
                have e4 : (⟨#[48, 49, 50, 51, 52, 53, 54, 55, 56, 57]⟩ : ByteArray).extract d (d + 1) = ⟨[dch d].toArray⟩ := digit_cut hd10
                have HD := Lib.hid (And.intro hd hr2)
                clear hd hr2 hj9
                by_cases h0 : 0 < r1
                · have HG := Lib.hid (hG.step hj8 (.inl h0))
                  rw [HD.out.1, HD.out.2] at HG
                  clear hG
                  go_wp2
                  go_round
                  case rel => exact ⟨j + 1, r2, _, rfl, rfl, by go_num, by omega, by have := HD.out.2; omega, HG.out⟩
                  case measure => simp [intOf]; omega
                · by_cases h1 : q' = 0
                  · subst h1
                    have hn40 : n4 = 0 := by have := H4.out.2.1; rw [digs_zero] at this; exact this
                    subst hn40
                    go_wp2
                    go_roundw
                    case rel => exact ⟨A4, 0, c4, 0, s1, rfl, rfl, by omega, ⟨H4.out, dgI_done0 hG h0⟩, rr.trans (hb5.mono rr.size)⟩
                    case measure => rw [H4.out.valOf, hm5, val_digs]; exact HLT.out
                  · have hn4p : 0 < n4 := Nat.pos_of_ne_zero fun e => h1 (digs_eq_nil.1 (List.eq_nil_of_length_eq_zero (by rw [← H4.out.2.1]; exact e)))
                    have HG := Lib.hid (hG.step hj8 (.inr (Nat.pos_of_ne_zero h1)))
                    rw [HD.out.1, HD.out.2] at HG
                    clear hG h1
                    go_wp2
                    go_round
                    case rel => exact ⟨j + 1, r2, _, rfl, rfl, by go_num, by omega, by have := HD.out.2; omega, HG.out⟩
                    case measure => simp [intOf]; omega
          · obtain ⟨g, o, rfl, hgl, hc1⟩ := (hw3.keep ((Kp.refl wo).below hbel)).at2 hn3p
            have hcx := hc1 (k - 1) (by omega)
            obtain ⟨x, hx⟩ : ∃ x, wd lq (k - 1) = x := ⟨_, rfl⟩
            have hx1 : x < 4294967296 := by rw [← hx]; exact hw3.lt _
            rw [hx] at hcx
            have HX := Lib.hid hx
            have hck := HB.out.cell (k - 1)
            rw [cellsOf_get (by rw [HLM.out]; omega)] at hck
            have hfk := HB.out.frozen (k - 1)
            have hkp : 0 < k := by omega
            obtain ⟨sx, hs⟩ : ∃ s : Nat, s = r * 4294967296 + x := ⟨_, rfl⟩
            have e1 : bits .or .u64 ((r : Int) * 4294967296) (x : Int) = (sx : Int) := by rw [hs]; exact join_word (by omega) hx1
            have HS := Lib.hid hs
            have hsb : sx / 1000000000 < 4294967296 := by rw [hs]; omega
            obtain ⟨t, ht⟩ : ∃ t : Nat, sx / 1000000000 = t := ⟨_, rfl⟩
            obtain ⟨r2, hr2⟩ : ∃ r2, sx % 1000000000 = r2 := ⟨_, rfl⟩
            rw [ht] at hsb
            have e2 : (sx : Int) / 1000000000 = (t : Int) := by omega
            have e3 : (sx : Int) % 1000000000 = (r2 : Int) := by omega
            have hsx : sx < 18446744073709551616 := by omega
            have hr3 : r2 < 1000000000 := by omega
            have HT := Lib.hid (And.intro ht hr2)
            clear hx hc1 hk0 hs ht hr2
            go_wp2
            clear e1 e2 e3
            go_roundw
            case rel =>
              refine ⟨k - 1, r2, L.set (k - 1) t, by omega, by go_num, by congr 1; have := HT.out.2; omega, hr3, by rw [List.length_set]; exact HLM.out, ⟨wds_set HI.out.1 _ hsb, hr3, ?_⟩, ?_, hbel.setCell (Nat.le_refl _) _⟩
              · rw [val_drop lq (by rw [← HL3.out]; omega), val_drop (L.set (k - 1) t) (by rw [List.length_set, HLM.out]; omega), drop_set_succ, show k - 1 + 1 = k by omega, HX.out, wd_set, if_pos ⟨rfl, by rw [HLM.out]; omega⟩, ← HT.out.1, ← HT.out.2, HS.out]
                exact short_step HI.out.2.2
              · exact HB.out.setW (k - 1) _ _ (by omega)
            case measure => simp [intOf]; omega
end Go.Proofs.YtpnnfbodphflpaaGreatDoor

/- Texts of integers by their values; errors as numbers. -/
namespace Go.Proofs.YtpnnfbodphflpaaGreatDoor
open Go Go.RowKit Bn

set_option maxRecDepth 100000 in
set_option maxHeartbeats 1000000 in
/-- linkworkbase.Num -/
theorem b_num_nil (w : World) : Calls Tryz.prog 13 #[.nilIface] w (RetV w (.int .i64 0)) := by
  go_enter Tryz.func13, Tryz.ntmps13
  go_wp2
  go_ret
  exact ⟨rfl, brefl w⟩
theorem run_as_err (x : Int) (w : World) : (Instr.typeAssert (.iface 71 (.int .i64 x)) 30 71 true).run Tryz.prog w = .ok (.tuple #[.int .i64 x, .bool true]) w := by
  simp [Instr.typeAssert, run_underlying Tryz.underlying71]
set_option maxRecDepth 100000 in
set_option maxHeartbeats 1000000 in
theorem b_num_err (w : World) (x : Int) : Calls Tryz.prog 13 #[.iface 71 (.int .i64 x)] w (RetV w (.int .i64 x)) := by
  go_enter Tryz.func13, Tryz.ntmps13
  have hr := run_as_err x
  go_wp2
  go_ret
  exact ⟨rfl, brefl w⟩
theorem i_text_l (w : World) (b : Bool) (A : Option Addr) (n c : Nat) (z : Int) (k : Nat) (h : IZ w b A n c z k) (T : List UInt8) (hk : k ≤ 1000000000) (ht : Tab w) (hT : Lib.itoa z = T) : Calls Tryz.prog 25 #[.agg #[.bool b, .slice A n c]] w (RetV w (strV T)) := by
  subst hT
  obtain ⟨l, h1, rfl, h3⟩ := h
  exact text_C w b A n c l h1 (by omega) ht
theorem r01_text_l (w : World) (b : Bool) (A : Option Addr) (n c : Nat) (z : Int) (k : Nat) (h : IZ w b A n c z k) (T : List UInt8) (hk : k ≤ 1000000000) (hT : Lib.itoa z = T) : Calls Tryz.prog 26 #[.agg #[.bool b, .slice A n c]] w (RetV w (strV T)) := by
  subst hT
  obtain ⟨l, h1, rfl, h3⟩ := h
  exact r_text_C w b A n c l h1 (by omega)
theorem i_cmp_w (w : World) (b : Bool) (A : Option Addr) (n c : Nat) (z : Int) (k : Nat) (h : IZ w b A n c z k) (b' : Bool) (A' : Option Addr) (n' c' : Nat) (z' : Int) (k' : Nat) (h' : IZ w b' A' n' c' z' k') (v : Int) (hv : cmpI z z' = v) (hk : k + k' ≤ 1000000000) : Calls Tryz.prog 30 #[.agg #[.bool b, .slice A n c], .agg #[.bool b', .slice A' n' c']] w (RetV w (.int .i64 v)) := by
  subst hv; exact i_cmp w b A n c z k h b' A' n' c' z' k' h' hk
end Go.Proofs.YtpnnfbodphflpaaGreatDoor

/- Walks: fractions in lowest terms. -/
namespace Go.Proofs.YtpnnfbodphflpaaGreatDoor
open Go Go.RowKit Bn
attribute [local go_sem ↓] Go.wp_at_zero Go.wp_at_succ
theorem int_q (i : Int) : Rat.divInt i 1 = (i : Rat) := by have := q_eq (i : Rat); simpa using this.symm
theorem sign3 (z : Int) : z = 0 ∨ z.sign = 1 ∨ z.sign = -1 := by
  rcases Int.lt_trichotomy z 0 with h | h | h
  · exact .inr (.inr (Int.sign_eq_neg_one_of_neg h))
  · exact .inl h
  · exact .inr (.inl (Int.sign_eq_one_of_pos h))
theorem sign_pos {z : Int} (h : z.sign = 1) : 0 < z := Int.sign_eq_one_iff_pos.1 h
theorem sign_neg_ {z : Int} (h : z.sign = -1) : 0 < -z := by have := Int.sign_eq_neg_one_iff_neg.1 h; omega
theorem sign_ne {z : Int} (h : z.sign = -1) : z ≠ 0 := by rintro rfl; cases h
theorem gcd_ne {a b : Int} (h : 0 < b) : ((Nat.gcd a.natAbs b.natAbs : Nat) : Int) ≠ 0 := by
  have : 0 < Nat.gcd a.natAbs b.natAbs := Nat.gcd_pos_of_pos_right _ (by omega)
  omega
theorem wh_div {a : Int} (g : Nat) (h : 0 < a) : (wh (a / (g : Int))).mag = digs (a.natAbs / g) := by
  have e : (a / (g : Int)) = ((a.natAbs / g : Nat) : Int) := by
    rw [Int.natCast_ediv, Int.natAbs_of_nonneg (by omega)]
  rw [e]; rfl
theorem form_pos {z d : Int} {q : Rat} (hz : z.sign = 1) (hd : 0 < d) (hq : Rat.divInt z d = q) :
    (rd q).num = (wh (z / ((Nat.gcd z.natAbs d.natAbs : Nat) : Int))).mag ∧ (rd q).den = (wh (d / ((Nat.gcd z.natAbs d.natAbs : Nat) : Int))).mag ∧ (rd q).neg = false := by
  have hp := sign_pos hz
  rw [← hq, rd_divInt (by omega) hd, wh_div _ hp, wh_div _ hd]
  exact ⟨rfl, rfl, by simp; omega⟩
theorem form_neg {z d : Int} {q : Rat} (hz : z.sign = -1) (hd : 0 < d) (hq : Rat.divInt z d = q) :
    (rd q).num = (wh (-z / ((Nat.gcd z.natAbs d.natAbs : Nat) : Int))).mag ∧ (rd q).den = (wh (d / ((Nat.gcd z.natAbs d.natAbs : Nat) : Int))).mag ∧ (rd q).neg = true := by
  have hp := sign_neg_ hz
  rw [← hq, rd_divInt (by omega) hd, wh_div _ hp, wh_div _ hd, Int.natAbs_neg]
  exact ⟨rfl, rfl, by simp; omega⟩
theorem i_sign_e (w : World) (b : Bool) (A : Option Addr) (n c : Nat) (z : Int) (k : Nat) (h : IZ w b A n c z k) (s : Int) (hs : z.sign = s) (hk : k ≤ 1000000000) : Calls Tryz.prog 76 #[.agg #[.bool b, .slice A n c]] w (RetV w (.int .i64 s)) := by
  subst hs; exact i_sign w b A n c z k h hk
set_option maxHeartbeats 2000000 in
/-- fraction.form -/
theorem f_form_0 (w : World) (b : Bool) (A : Option Addr) (n c : Nat) (z : Int) (k : Nat) (h : IZ w b A n c z k) (b' : Bool) (A' : Option Addr) (n' c' : Nat) (z' : Int) (k' : Nat) (h' : IZ w b' A' n' c' z' k') (K : Nat) (hz : z = 0) (hk : k + k' ≤ 300000000) :
    Calls Tryz.prog 125 #[.agg #[.bool b, .slice A n c], .agg #[.bool b', .slice A' n' c']] w (RetF w 0 K) := by
  have HZ := Lib.hid (show z.sign = 0 by rw [hz]; rfl)
  clear hz
  go_enter Tryz.func125, Tryz.ntmps125
  go_wp2_with fail
  (with_reducible refine (i_sign_e _ b A n c (z) (k) ?_ (0) ?_ ?_).mono ?_); (exact (h.belw ((((Below.refl _ _).alloc (Nat.le_refl _) _).alloc (by simp) _).alloc (by simp <;> omega) _))); (exact HZ.out); (omega); rintro e w1 ⟨rfl, hb1⟩
  have q1 : Below w.heap.size w w1 := ((((Below.refl _ _).alloc (Nat.le_refl _) _).alloc (by simp) _).alloc (by simp <;> omega) _).trans (hb1.mono (by simp <;> omega))
  replace h := h.belw q1
  replace h' := h'.belw q1
  have x1_0 : Blk w1 (w.heap.size) 48 #[.bool b, .slice A n c] := (((blkAt _ _ _ (by simp)).alloc _).alloc _).below hb1 (by simp <;> omega)
  have x1_1 : Blk w1 (w.heap.size + 1) 48 #[.bool b', .slice A' n' c'] := ((blkAt _ _ _ (by simp)).alloc _).below hb1 (by simp <;> omega)
  have x1_2 : Blk w1 (w.heap.size + 1 + 1) 24 #[.bool false, .slice none 0 0, .slice none 0 0] := (blkAt _ _ _ (by simp)).below hb1 (by simp)
  have bw1 : Below w.heap.size w w1 := (brefl w).trans (q1.mono (brefl w).size)
  have lw1 : w.heap.size + 3 ≤ w1.heap.size := by have := hb1.size; simp at this; omega
  clear hb1 q1
  obtain ⟨cx1_2_0, cx1_2_1, cx1_2_2⟩ := x1_2.c3
  obtain ⟨fx1_2_0, fx1_2_1, fx1_2_2⟩ := x1_2.f3
  obtain ⟨lx1_2_0, lx1_2_1, lx1_2_2, lx1_2_3⟩ := lts2 x1_2.lt
  go_wp2_with fail
  refine bodyPost_ret (v := .agg #[.bool false, .slice none 0 0, .slice none 0 0]) (by simp [results, Tryz.results125, go_sem, *] <;> first | rfl | exact ⟨rfl, rfl⟩) rfl ?_
  exact ⟨false, none, 0, 0, none, 0, 0, rfl, QV.zero _ _, (((bw1.setCell (p := ⟨w.heap.size + 1 + 1, 0, none⟩) (by dsimp only; omega) (.bool false)).setCell (p := ⟨w.heap.size + 1 + 1, 1, none⟩) (by dsimp only; omega) (.slice none 0 0)).setCell (p := ⟨w.heap.size + 1 + 1, 2, none⟩) (by dsimp only; omega) (.slice none 0 0))⟩
set_option maxHeartbeats 2000000 in
/-- fraction.form -/
theorem f_form_pp (w : World) (b : Bool) (A : Option Addr) (n c : Nat) (z : Int) (k : Nat) (h : IZ w b A n c z k) (b' : Bool) (A' : Option Addr) (n' c' : Nat) (z' : Int) (k' : Nat) (h' : IZ w b' A' n' c' z' k') (q : Rat) (K : Nat) (hz : z.sign = 1) (hd : z'.sign = 1) (hq : Rat.divInt z z' = q) (hs : Sz q K) (hk : k + k' ≤ 300000000) :
    Calls Tryz.prog 125 #[.agg #[.bool b, .slice A n c], .agg #[.bool b', .slice A' n' c']] w (RetF w q K) := by
  have HZ := Lib.hid hz
  have HD := Lib.hid hd
  have HN := Lib.hid (show (z).sign = 1 by exact hz)
  have HP := Lib.hid (show 0 < z' by exact sign_pos hd)
  have HG := Lib.hid (show ((Nat.gcd (z).natAbs (z').natAbs : Nat) : Int) ≠ 0 from gcd_ne HP.out)
  have HQ := Lib.hid (show Rat.divInt z z' = q by exact hq)
  have HS := Lib.hid hs
  clear hz hd hq hs
  go_enter Tryz.func125, Tryz.ntmps125
  go_wp2_with fail
  (with_reducible refine (i_sign_e _ b A n c (z) (k) ?_ (1) ?_ ?_).mono ?_); (exact (h.belw ((((Below.refl _ _).alloc (Nat.le_refl _) _).alloc (by simp) _).alloc (by simp <;> omega) _))); (exact HZ.out); (omega); rintro e w1 ⟨rfl, hb1⟩
  have q1 : Below w.heap.size w w1 := ((((Below.refl _ _).alloc (Nat.le_refl _) _).alloc (by simp) _).alloc (by simp <;> omega) _).trans (hb1.mono (by simp <;> omega))
  replace h := h.belw q1
  replace h' := h'.belw q1
  have x1_0 : Blk w1 (w.heap.size) 48 #[.bool b, .slice A n c] := (((blkAt _ _ _ (by simp)).alloc _).alloc _).below hb1 (by simp <;> omega)
  have x1_1 : Blk w1 (w.heap.size + 1) 48 #[.bool b', .slice A' n' c'] := ((blkAt _ _ _ (by simp)).alloc _).below hb1 (by simp <;> omega)
  have x1_2 : Blk w1 (w.heap.size + 1 + 1) 24 #[.bool false, .slice none 0 0, .slice none 0 0] := (blkAt _ _ _ (by simp)).below hb1 (by simp)
  have bw1 : Below w.heap.size w w1 := (brefl w).trans (q1.mono (brefl w).size)
  have lw1 : w.heap.size + 3 ≤ w1.heap.size := by have := hb1.size; simp at this; omega
  clear hb1 q1
  obtain ⟨cx1_1_0, cx1_1_1⟩ := x1_1.c2
  obtain ⟨lx1_1_0, lx1_1_1, lx1_1_2, lx1_1_3⟩ := lts1 x1_1.lt
  go_wp2_with fail
  (with_reducible refine (i_sign_e _ b' A' n' c' (z') (k') ?_ (1) ?_ ?_).mono ?_); (exact h'); (exact HD.out); (omega); rintro e w2 ⟨rfl, hb2⟩
  clear cx1_1_0 cx1_1_1 lx1_1_0 lx1_1_1 lx1_1_2 lx1_1_3
  have q2 : Below w1.heap.size w1 w2 := hb2
  replace h := h.belw q2
  replace h' := h'.belw q2
  replace x1_0 := x1_0.below q2 x1_0.lt
  replace x1_1 := x1_1.below q2 x1_1.lt
  replace x1_2 := x1_2.below q2 x1_2.lt
  have bw2 : Below w.heap.size w w2 := bw1.trans (q2.mono bw1.size)
  have lw2 : w1.heap.size ≤ w2.heap.size := q2.size
  clear hb2 q2 bw1
  obtain ⟨cx1_0_0, cx1_0_1⟩ := x1_0.c2
  obtain ⟨lx1_0_0, lx1_0_1, lx1_0_2, lx1_0_3⟩ := lts0 x1_0.lt
  obtain ⟨cx1_1_0, cx1_1_1⟩ := x1_1.c2
  obtain ⟨lx1_1_0, lx1_1_1, lx1_1_2, lx1_1_3⟩ := lts1 x1_1.lt
  go_wp2_with fail
  (with_reducible refine (i_gcd _ b A n c (z) (k) ?_ b' A' n' c' (z') (k') ?_ ?_).mono ?_); (exact h); (exact h'); (first | omega | decide | assumption); rintro e w3 ⟨b3, A3, n3, c3, rfl, h3, hb3⟩
  clear cx1_0_0 cx1_0_1 lx1_0_0 lx1_0_1 lx1_0_2 lx1_0_3 cx1_1_0 cx1_1_1 lx1_1_0 lx1_1_1 lx1_1_2 lx1_1_3
  have q3 : Below w2.heap.size w2 w3 := hb3
  replace h := h.belw q3
  replace h' := h'.belw q3
  replace x1_0 := x1_0.below q3 x1_0.lt
  replace x1_1 := x1_1.below q3 x1_1.lt
  replace x1_2 := x1_2.below q3 x1_2.lt
  have bw3 : Below w.heap.size w w3 := bw2.trans (q3.mono bw2.size)
  have lw3 : w2.heap.size ≤ w3.heap.size := q3.size
  clear hb3 q3 bw2
  obtain ⟨cx1_0_0, cx1_0_1⟩ := x1_0.c2
  obtain ⟨lx1_0_0, lx1_0_1, lx1_0_2, lx1_0_3⟩ := lts0 x1_0.lt
  go_wp2_with fail
  (with_reducible refine (i_sign_e _ b A n c (z) (k) ?_ (1) ?_ ?_).mono ?_); (exact (h.belw ((Below.refl _ _).alloc (Nat.le_refl _) _))); (exact HN.out); (omega); rintro e w4 ⟨rfl, hb4⟩
  clear cx1_0_0 cx1_0_1 lx1_0_0 lx1_0_1 lx1_0_2 lx1_0_3
  have q4 : Below w3.heap.size w3 w4 := ((Below.refl _ _).alloc (Nat.le_refl _) _).trans (hb4.mono (by simp))
  replace h := h.belw q4
  replace h' := h'.belw q4
  replace h3 := h3.belw q4
  replace x1_0 := x1_0.below q4 x1_0.lt
  replace x1_1 := x1_1.below q4 x1_1.lt
  replace x1_2 := x1_2.below q4 x1_2.lt
  have x4_0 : Blk w4 (w3.heap.size) 48 #[.bool b3, .slice A3 n3 c3] := (blkAt _ _ _ (by simp)).below hb4 (by simp)
  have bw4 : Below w.heap.size w w4 := bw3.trans (q4.mono bw3.size)
  have lw4 : w3.heap.size + 1 ≤ w4.heap.size := by have := hb4.size; simp at this; omega
  clear hb4 q4 bw3
  obtain ⟨cx1_0_0, cx1_0_1⟩ := x1_0.c2
  obtain ⟨lx1_0_0, lx1_0_1, lx1_0_2, lx1_0_3⟩ := lts0 x1_0.lt
  obtain ⟨cx4_0_0, cx4_0_1⟩ := x4_0.c2
  obtain ⟨lx4_0_0, lx4_0_1, lx4_0_2, lx4_0_3⟩ := lts0 x4_0.lt
  go_wp2_with fail
  (with_reducible refine (i_div _ b A n c (z) (k) ?_ b3 A3 n3 c3 ((Nat.gcd ((z)).natAbs ((z')).natAbs : Nat)) ((k) + (k')) ?_  ?_ ?_).mono ?_); (exact h); (exact h3.iz); (omega); (exact HG.out); rintro e w5 ⟨b5, A5, n5, c5, b'5, A'5, n'5, c'5, rfl, h5, h'5, hb5⟩
  clear cx1_0_0 cx1_0_1 lx1_0_0 lx1_0_1 lx1_0_2 lx1_0_3 cx4_0_0 cx4_0_1 lx4_0_0 lx4_0_1 lx4_0_2 lx4_0_3
  have q5 : Below w4.heap.size w4 w5 := hb5
  replace h := h.belw q5
  replace h' := h'.belw q5
  replace h3 := h3.belw q5
  replace x1_0 := x1_0.below q5 x1_0.lt
  replace x1_1 := x1_1.below q5 x1_1.lt
  replace x1_2 := x1_2.below q5 x1_2.lt
  replace x4_0 := x4_0.below q5 x4_0.lt
  have bw5 : Below w.heap.size w w5 := bw4.trans (q5.mono bw4.size)
  have lw5 : w4.heap.size ≤ w5.heap.size := q5.size
  clear hb5 q5 bw4
  obtain ⟨cx1_0_0, cx1_0_1⟩ := x1_0.c2
  obtain ⟨fx1_0_0, fx1_0_1⟩ := x1_0.f2
  obtain ⟨lx1_0_0, lx1_0_1, lx1_0_2, lx1_0_3⟩ := lts0 x1_0.lt
  obtain ⟨cx1_1_0, cx1_1_1⟩ := x1_1.c2
  obtain ⟨lx1_1_0, lx1_1_1, lx1_1_2, lx1_1_3⟩ := lts1 x1_1.lt
  obtain ⟨cx4_0_0, cx4_0_1⟩ := x4_0.c2
  obtain ⟨lx4_0_0, lx4_0_1, lx4_0_2, lx4_0_3⟩ := lts0 x4_0.lt
  go_wp2_with fail
  clear cx1_0_0 fx1_0_0 cx1_0_1 fx1_0_1 lx1_0_0 lx1_0_1 lx1_0_2 lx1_0_3 cx1_1_0 cx1_1_1 lx1_1_0 lx1_1_1 lx1_1_2 lx1_1_3 cx4_0_0 cx4_0_1 lx4_0_0 lx4_0_1 lx4_0_2 lx4_0_3
  have p6 : Kp w5 ((w5.setCell ⟨w.heap.size, 0, none⟩ (.bool b5)).setCell ⟨w.heap.size, 1, none⟩ (.slice A5 n5 c5)) := (((Kp.refl w5).setB (p := ⟨w.heap.size, 0, none⟩) x1_0.box (by decide) (.bool b5)).setB (p := ⟨w.heap.size, 1, none⟩) (x1_0.box.set ⟨w.heap.size, 0, none⟩ (.bool b5)) (by decide) (.slice A5 n5 c5))
  have bw6 : Below w.heap.size w ((w5.setCell ⟨w.heap.size, 0, none⟩ (.bool b5)).setCell ⟨w.heap.size, 1, none⟩ (.slice A5 n5 c5)) := ((bw5.setCell (p := ⟨w.heap.size, 0, none⟩) (by dsimp only; omega) (.bool b5)).setCell (p := ⟨w.heap.size, 1, none⟩) (by dsimp only; omega) (.slice A5 n5 c5))
  replace x1_0 : Blk ((w5.setCell ⟨w.heap.size, 0, none⟩ (.bool b5)).setCell ⟨w.heap.size, 1, none⟩ (.slice A5 n5 c5)) (w.heap.size) 48 #[.bool b5, .slice A5 n5 c5] := ((x1_0.set_at 0 (.bool b5) #[.bool b5, .slice A n c] (by simp)).set_at 1 (.slice A5 n5 c5) #[.bool b5, .slice A5 n5 c5] (by simp))
  replace x1_1 : Blk ((w5.setCell ⟨w.heap.size, 0, none⟩ (.bool b5)).setCell ⟨w.heap.size, 1, none⟩ (.slice A5 n5 c5)) (w.heap.size + 1) 48 #[.bool b', .slice A' n' c'] := ((x1_1.far (p := ⟨w.heap.size, 0, none⟩) (by dsimp only; omega) (.bool b5)).far (p := ⟨w.heap.size, 1, none⟩) (by dsimp only; omega) (.slice A5 n5 c5))
  replace x1_2 : Blk ((w5.setCell ⟨w.heap.size, 0, none⟩ (.bool b5)).setCell ⟨w.heap.size, 1, none⟩ (.slice A5 n5 c5)) (w.heap.size + 1 + 1) 24 #[.bool false, .slice none 0 0, .slice none 0 0] := ((x1_2.far (p := ⟨w.heap.size, 0, none⟩) (by dsimp only; omega) (.bool b5)).far (p := ⟨w.heap.size, 1, none⟩) (by dsimp only; omega) (.slice A5 n5 c5))
  replace x4_0 : Blk ((w5.setCell ⟨w.heap.size, 0, none⟩ (.bool b5)).setCell ⟨w.heap.size, 1, none⟩ (.slice A5 n5 c5)) (w3.heap.size) 48 #[.bool b3, .slice A3 n3 c3] := ((x4_0.far (p := ⟨w.heap.size, 0, none⟩) (by dsimp only; omega) (.bool b5)).far (p := ⟨w.heap.size, 1, none⟩) (by dsimp only; omega) (.slice A5 n5 c5))
  have lw6 : w5.heap.size + 0 ≤ ((w5.setCell ⟨w.heap.size, 0, none⟩ (.bool b5)).setCell ⟨w.heap.size, 1, none⟩ (.slice A5 n5 c5)).heap.size := by simp
  generalize hE6 : ((w5.setCell ⟨w.heap.size, 0, none⟩ (.bool b5)).setCell ⟨w.heap.size, 1, none⟩ (.slice A5 n5 c5)) = w6 at p6 bw6 lw6 x1_0 x1_1 x1_2 x4_0 ⊢
  clear hE6
  replace h := h.keep p6
  replace h' := h'.keep p6
  replace h3 := h3.keep p6
  replace h5 := h5.keep p6
  replace h'5 := h'5.keep p6
  clear bw5
  (with_reducible refine (i_div _ b' A' n' c' (z') (k') ?_ b3 A3 n3 c3 ((Nat.gcd ((z)).natAbs ((z')).natAbs : Nat)) ((k) + (k')) ?_  ?_ ?_).mono ?_); (exact h'); (exact h3.iz); (omega); (exact HG.out); rintro e w7 ⟨b7, A7, n7, c7, b'7, A'7, n'7, c'7, rfl, h7, h'7, hb7⟩
  have q7 : Below w6.heap.size w6 w7 := hb7
  replace h := h.belw q7
  replace h' := h'.belw q7
  replace h3 := h3.belw q7
  replace h5 := h5.belw q7
  replace h'5 := h'5.belw q7
  replace x1_0 := x1_0.below q7 x1_0.lt
  replace x1_1 := x1_1.below q7 x1_1.lt
  replace x1_2 := x1_2.below q7 x1_2.lt
  replace x4_0 := x4_0.below q7 x4_0.lt
  have bw7 : Below w.heap.size w w7 := bw6.trans (q7.mono bw6.size)
  have lw7 : w6.heap.size ≤ w7.heap.size := q7.size
  clear hb7 q7 bw6
  obtain ⟨cx1_0_0, cx1_0_1⟩ := x1_0.c2
  obtain ⟨lx1_0_0, lx1_0_1, lx1_0_2, lx1_0_3⟩ := lts0 x1_0.lt
  obtain ⟨cx1_1_0, cx1_1_1⟩ := x1_1.c2
  obtain ⟨fx1_1_0, fx1_1_1⟩ := x1_1.f2
  obtain ⟨lx1_1_0, lx1_1_1, lx1_1_2, lx1_1_3⟩ := lts1 x1_1.lt
  obtain ⟨cx1_2_0, cx1_2_1, cx1_2_2⟩ := x1_2.c3
  obtain ⟨fx1_2_0, fx1_2_1, fx1_2_2⟩ := x1_2.f3
  obtain ⟨lx1_2_0, lx1_2_1, lx1_2_2, lx1_2_3⟩ := lts2 x1_2.lt
  go_wp2_with fail
  refine bodyPost_ret (v := .agg #[.bool false, .slice A5 n5 c5, .slice A7 n7 c7]) (by simp [results, Tryz.results125, go_sem, *] <;> first | rfl | exact ⟨rfl, rfl⟩) rfl ?_
  obtain ⟨e1, e2, e3⟩ := form_pos HN.out HP.out HQ.out
  exact ⟨_, _, _, _, _, _, _, rfl, QV.mk_ (by rw [e1]; exact h5.2.1.keep ((((((Kp.refl w7).setB (p := ⟨w.heap.size + 1, 0, none⟩) x1_1.box (by decide) (.bool b7)).setB (p := ⟨w.heap.size + 1, 1, none⟩) (x1_1.box.set ⟨w.heap.size + 1, 0, none⟩ (.bool b7)) (by decide) (.slice A7 n7 c7)).setB (p := ⟨w.heap.size + 1 + 1, 0, none⟩) ((x1_2.box.set ⟨w.heap.size + 1, 0, none⟩ (.bool b7)).set ⟨w.heap.size + 1, 1, none⟩ (.slice A7 n7 c7)) (by decide) (.bool false)).setB (p := ⟨w.heap.size + 1 + 1, 1, none⟩) (((x1_2.box.set ⟨w.heap.size + 1, 0, none⟩ (.bool b7)).set ⟨w.heap.size + 1, 1, none⟩ (.slice A7 n7 c7)).set ⟨w.heap.size + 1 + 1, 0, none⟩ (.bool false)) (by decide) (.slice A5 n5 c5)).setB (p := ⟨w.heap.size + 1 + 1, 2, none⟩) ((((x1_2.box.set ⟨w.heap.size + 1, 0, none⟩ (.bool b7)).set ⟨w.heap.size + 1, 1, none⟩ (.slice A7 n7 c7)).set ⟨w.heap.size + 1 + 1, 0, none⟩ (.bool false)).set ⟨w.heap.size + 1 + 1, 1, none⟩ (.slice A5 n5 c5)) (by decide) (.slice A7 n7 c7))) (by rw [e2]; exact h7.2.1.keep ((((((Kp.refl w7).setB (p := ⟨w.heap.size + 1, 0, none⟩) x1_1.box (by decide) (.bool b7)).setB (p := ⟨w.heap.size + 1, 1, none⟩) (x1_1.box.set ⟨w.heap.size + 1, 0, none⟩ (.bool b7)) (by decide) (.slice A7 n7 c7)).setB (p := ⟨w.heap.size + 1 + 1, 0, none⟩) ((x1_2.box.set ⟨w.heap.size + 1, 0, none⟩ (.bool b7)).set ⟨w.heap.size + 1, 1, none⟩ (.slice A7 n7 c7)) (by decide) (.bool false)).setB (p := ⟨w.heap.size + 1 + 1, 1, none⟩) (((x1_2.box.set ⟨w.heap.size + 1, 0, none⟩ (.bool b7)).set ⟨w.heap.size + 1, 1, none⟩ (.slice A7 n7 c7)).set ⟨w.heap.size + 1 + 1, 0, none⟩ (.bool false)) (by decide) (.slice A5 n5 c5)).setB (p := ⟨w.heap.size + 1 + 1, 2, none⟩) ((((x1_2.box.set ⟨w.heap.size + 1, 0, none⟩ (.bool b7)).set ⟨w.heap.size + 1, 1, none⟩ (.slice A7 n7 c7)).set ⟨w.heap.size + 1 + 1, 0, none⟩ (.bool false)).set ⟨w.heap.size + 1 + 1, 1, none⟩ (.slice A5 n5 c5)) (by decide) (.slice A7 n7 c7))) e3 HS.out, (((((bw7.setCell (p := ⟨w.heap.size + 1, 0, none⟩) (by dsimp only; omega) (.bool b7)).setCell (p := ⟨w.heap.size + 1, 1, none⟩) (by dsimp only; omega) (.slice A7 n7 c7)).setCell (p := ⟨w.heap.size + 1 + 1, 0, none⟩) (by dsimp only; omega) (.bool false)).setCell (p := ⟨w.heap.size + 1 + 1, 1, none⟩) (by dsimp only; omega) (.slice A5 n5 c5)).setCell (p := ⟨w.heap.size + 1 + 1, 2, none⟩) (by dsimp only; omega) (.slice A7 n7 c7))⟩
set_option maxHeartbeats 2000000 in
/-- fraction.form -/
theorem f_form_pn (w : World) (b : Bool) (A : Option Addr) (n c : Nat) (z : Int) (k : Nat) (h : IZ w b A n c z k) (b' : Bool) (A' : Option Addr) (n' c' : Nat) (z' : Int) (k' : Nat) (h' : IZ w b' A' n' c' z' k') (q : Rat) (K : Nat) (hz : z.sign = -1) (hd : z'.sign = 1) (hq : Rat.divInt z z' = q) (hs : Sz q K) (hk : k + k' ≤ 300000000) :
    Calls Tryz.prog 125 #[.agg #[.bool b, .slice A n c], .agg #[.bool b', .slice A' n' c']] w (RetF w q K) := by
  have HZ := Lib.hid hz
  have HD := Lib.hid hd
  have HN := Lib.hid (show (z).sign = -1 by exact hz)
  have HP := Lib.hid (show 0 < z' by exact sign_pos hd)
  have HG := Lib.hid (show ((Nat.gcd (z).natAbs (z').natAbs : Nat) : Int) ≠ 0 from gcd_ne HP.out)
  have HQ := Lib.hid (show Rat.divInt z z' = q by exact hq)
  have HS := Lib.hid hs
  clear hz hd hq hs
  go_enter Tryz.func125, Tryz.ntmps125
  go_wp2_with fail
  (with_reducible refine (i_sign_e _ b A n c (z) (k) ?_ (-1) ?_ ?_).mono ?_); (exact (h.belw ((((Below.refl _ _).alloc (Nat.le_refl _) _).alloc (by simp) _).alloc (by simp <;> omega) _))); (exact HZ.out); (omega); rintro e w1 ⟨rfl, hb1⟩
  have q1 : Below w.heap.size w w1 := ((((Below.refl _ _).alloc (Nat.le_refl _) _).alloc (by simp) _).alloc (by simp <;> omega) _).trans (hb1.mono (by simp <;> omega))
  replace h := h.belw q1
  replace h' := h'.belw q1
  have x1_0 : Blk w1 (w.heap.size) 48 #[.bool b, .slice A n c] := (((blkAt _ _ _ (by simp)).alloc _).alloc _).below hb1 (by simp <;> omega)
  have x1_1 : Blk w1 (w.heap.size + 1) 48 #[.bool b', .slice A' n' c'] := ((blkAt _ _ _ (by simp)).alloc _).below hb1 (by simp <;> omega)
  have x1_2 : Blk w1 (w.heap.size + 1 + 1) 24 #[.bool false, .slice none 0 0, .slice none 0 0] := (blkAt _ _ _ (by simp)).below hb1 (by simp)
  have bw1 : Below w.heap.size w w1 := (brefl w).trans (q1.mono (brefl w).size)
  have lw1 : w.heap.size + 3 ≤ w1.heap.size := by have := hb1.size; simp at this; omega
  clear hb1 q1
  obtain ⟨cx1_1_0, cx1_1_1⟩ := x1_1.c2
  obtain ⟨lx1_1_0, lx1_1_1, lx1_1_2, lx1_1_3⟩ := lts1 x1_1.lt
  go_wp2_with fail
  (with_reducible refine (i_sign_e _ b' A' n' c' (z') (k') ?_ (1) ?_ ?_).mono ?_); (exact h'); (exact HD.out); (omega); rintro e w2 ⟨rfl, hb2⟩
  clear cx1_1_0 cx1_1_1 lx1_1_0 lx1_1_1 lx1_1_2 lx1_1_3
  have q2 : Below w1.heap.size w1 w2 := hb2
  replace h := h.belw q2
  replace h' := h'.belw q2
  replace x1_0 := x1_0.below q2 x1_0.lt
  replace x1_1 := x1_1.below q2 x1_1.lt
  replace x1_2 := x1_2.below q2 x1_2.lt
  have bw2 : Below w.heap.size w w2 := bw1.trans (q2.mono bw1.size)
  have lw2 : w1.heap.size ≤ w2.heap.size := q2.size
  clear hb2 q2 bw1
  obtain ⟨cx1_0_0, cx1_0_1⟩ := x1_0.c2
  obtain ⟨lx1_0_0, lx1_0_1, lx1_0_2, lx1_0_3⟩ := lts0 x1_0.lt
  obtain ⟨cx1_1_0, cx1_1_1⟩ := x1_1.c2
  obtain ⟨lx1_1_0, lx1_1_1, lx1_1_2, lx1_1_3⟩ := lts1 x1_1.lt
  go_wp2_with fail
  (with_reducible refine (i_gcd _ b A n c (z) (k) ?_ b' A' n' c' (z') (k') ?_ ?_).mono ?_); (exact h); (exact h'); (first | omega | decide | assumption); rintro e w3 ⟨b3, A3, n3, c3, rfl, h3, hb3⟩
  clear cx1_0_0 cx1_0_1 lx1_0_0 lx1_0_1 lx1_0_2 lx1_0_3 cx1_1_0 cx1_1_1 lx1_1_0 lx1_1_1 lx1_1_2 lx1_1_3
  have q3 : Below w2.heap.size w2 w3 := hb3
  replace h := h.belw q3
  replace h' := h'.belw q3
  replace x1_0 := x1_0.below q3 x1_0.lt
  replace x1_1 := x1_1.below q3 x1_1.lt
  replace x1_2 := x1_2.below q3 x1_2.lt
  have bw3 : Below w.heap.size w w3 := bw2.trans (q3.mono bw2.size)
  have lw3 : w2.heap.size ≤ w3.heap.size := q3.size
  clear hb3 q3 bw2
  obtain ⟨cx1_0_0, cx1_0_1⟩ := x1_0.c2
  obtain ⟨lx1_0_0, lx1_0_1, lx1_0_2, lx1_0_3⟩ := lts0 x1_0.lt
  go_wp2_with fail
  (with_reducible refine (i_sign_e _ b A n c (z) (k) ?_ (-1) ?_ ?_).mono ?_); (exact (h.belw ((Below.refl _ _).alloc (Nat.le_refl _) _))); (exact HN.out); (omega); rintro e w4 ⟨rfl, hb4⟩
  clear cx1_0_0 cx1_0_1 lx1_0_0 lx1_0_1 lx1_0_2 lx1_0_3
  have q4 : Below w3.heap.size w3 w4 := ((Below.refl _ _).alloc (Nat.le_refl _) _).trans (hb4.mono (by simp))
  replace h := h.belw q4
  replace h' := h'.belw q4
  replace h3 := h3.belw q4
  replace x1_0 := x1_0.below q4 x1_0.lt
  replace x1_1 := x1_1.below q4 x1_1.lt
  replace x1_2 := x1_2.below q4 x1_2.lt
  have x4_0 : Blk w4 (w3.heap.size) 48 #[.bool b3, .slice A3 n3 c3] := (blkAt _ _ _ (by simp)).below hb4 (by simp)
  have bw4 : Below w.heap.size w w4 := bw3.trans (q4.mono bw3.size)
  have lw4 : w3.heap.size + 1 ≤ w4.heap.size := by have := hb4.size; simp at this; omega
  clear hb4 q4 bw3
  obtain ⟨cx1_0_0, cx1_0_1⟩ := x1_0.c2
  obtain ⟨lx1_0_0, lx1_0_1, lx1_0_2, lx1_0_3⟩ := lts0 x1_0.lt
  go_wp2_with fail
  (with_reducible refine (i_neg _ b A n c (z) (k) ?_ ?_).mono ?_); (exact h); (first | omega | decide | assumption); rintro e w5 ⟨b5, A5, n5, c5, rfl, h5, hb5⟩
  clear cx1_0_0 cx1_0_1 lx1_0_0 lx1_0_1 lx1_0_2 lx1_0_3
  have q5 : Below w4.heap.size w4 w5 := hb5
  replace h := h.belw q5
  replace h' := h'.belw q5
  replace h3 := h3.belw q5
  replace x1_0 := x1_0.below q5 x1_0.lt
  replace x1_1 := x1_1.below q5 x1_1.lt
  replace x1_2 := x1_2.below q5 x1_2.lt
  replace x4_0 := x4_0.below q5 x4_0.lt
  have bw5 : Below w.heap.size w w5 := bw4.trans (q5.mono bw4.size)
  have lw5 : w4.heap.size ≤ w5.heap.size := q5.size
  clear hb5 q5 bw4
  obtain ⟨cx1_0_0, cx1_0_1⟩ := x1_0.c2
  obtain ⟨fx1_0_0, fx1_0_1⟩ := x1_0.f2
  obtain ⟨lx1_0_0, lx1_0_1, lx1_0_2, lx1_0_3⟩ := lts0 x1_0.lt
  obtain ⟨cx4_0_0, cx4_0_1⟩ := x4_0.c2
  obtain ⟨lx4_0_0, lx4_0_1, lx4_0_2, lx4_0_3⟩ := lts0 x4_0.lt
  go_wp2_with fail
  clear cx1_0_0 fx1_0_0 cx1_0_1 fx1_0_1 lx1_0_0 lx1_0_1 lx1_0_2 lx1_0_3 cx4_0_0 cx4_0_1 lx4_0_0 lx4_0_1 lx4_0_2 lx4_0_3
  have p6 : Kp w5 ((w5.setCell ⟨w.heap.size, 0, none⟩ (.bool b5)).setCell ⟨w.heap.size, 1, none⟩ (.slice A5 n5 c5)) := (((Kp.refl w5).setB (p := ⟨w.heap.size, 0, none⟩) x1_0.box (by decide) (.bool b5)).setB (p := ⟨w.heap.size, 1, none⟩) (x1_0.box.set ⟨w.heap.size, 0, none⟩ (.bool b5)) (by decide) (.slice A5 n5 c5))
  have bw6 : Below w.heap.size w ((w5.setCell ⟨w.heap.size, 0, none⟩ (.bool b5)).setCell ⟨w.heap.size, 1, none⟩ (.slice A5 n5 c5)) := ((bw5.setCell (p := ⟨w.heap.size, 0, none⟩) (by dsimp only; omega) (.bool b5)).setCell (p := ⟨w.heap.size, 1, none⟩) (by dsimp only; omega) (.slice A5 n5 c5))
  replace x1_0 : Blk ((w5.setCell ⟨w.heap.size, 0, none⟩ (.bool b5)).setCell ⟨w.heap.size, 1, none⟩ (.slice A5 n5 c5)) (w.heap.size) 48 #[.bool b5, .slice A5 n5 c5] := ((x1_0.set_at 0 (.bool b5) #[.bool b5, .slice A n c] (by simp)).set_at 1 (.slice A5 n5 c5) #[.bool b5, .slice A5 n5 c5] (by simp))
  replace x1_1 : Blk ((w5.setCell ⟨w.heap.size, 0, none⟩ (.bool b5)).setCell ⟨w.heap.size, 1, none⟩ (.slice A5 n5 c5)) (w.heap.size + 1) 48 #[.bool b', .slice A' n' c'] := ((x1_1.far (p := ⟨w.heap.size, 0, none⟩) (by dsimp only; omega) (.bool b5)).far (p := ⟨w.heap.size, 1, none⟩) (by dsimp only; omega) (.slice A5 n5 c5))
  replace x1_2 : Blk ((w5.setCell ⟨w.heap.size, 0, none⟩ (.bool b5)).setCell ⟨w.heap.size, 1, none⟩ (.slice A5 n5 c5)) (w.heap.size + 1 + 1) 24 #[.bool false, .slice none 0 0, .slice none 0 0] := ((x1_2.far (p := ⟨w.heap.size, 0, none⟩) (by dsimp only; omega) (.bool b5)).far (p := ⟨w.heap.size, 1, none⟩) (by dsimp only; omega) (.slice A5 n5 c5))
  replace x4_0 : Blk ((w5.setCell ⟨w.heap.size, 0, none⟩ (.bool b5)).setCell ⟨w.heap.size, 1, none⟩ (.slice A5 n5 c5)) (w3.heap.size) 48 #[.bool b3, .slice A3 n3 c3] := ((x4_0.far (p := ⟨w.heap.size, 0, none⟩) (by dsimp only; omega) (.bool b5)).far (p := ⟨w.heap.size, 1, none⟩) (by dsimp only; omega) (.slice A5 n5 c5))
  have lw6 : w5.heap.size + 0 ≤ ((w5.setCell ⟨w.heap.size, 0, none⟩ (.bool b5)).setCell ⟨w.heap.size, 1, none⟩ (.slice A5 n5 c5)).heap.size := by simp
  generalize hE6 : ((w5.setCell ⟨w.heap.size, 0, none⟩ (.bool b5)).setCell ⟨w.heap.size, 1, none⟩ (.slice A5 n5 c5)) = w6 at p6 bw6 lw6 x1_0 x1_1 x1_2 x4_0 ⊢
  clear hE6
  replace h := h.keep p6
  replace h' := h'.keep p6
  replace h3 := h3.keep p6
  replace h5 := h5.keep p6
  clear bw5
  (with_reducible refine (i_div _ b5 A5 n5 c5 (-(z)) ((k)) ?_ b3 A3 n3 c3 ((Nat.gcd ((z)).natAbs ((z')).natAbs : Nat)) ((k) + (k')) ?_  ?_ ?_).mono ?_); (exact h5.iz); (exact h3.iz); (omega); (exact HG.out); rintro e w7 ⟨b7, A7, n7, c7, b'7, A'7, n'7, c'7, rfl, h7, h'7, hb7⟩
  have q7 : Below w6.heap.size w6 w7 := hb7
  replace h := h.belw q7
  replace h' := h'.belw q7
  replace h3 := h3.belw q7
  replace h5 := h5.belw q7
  replace x1_0 := x1_0.below q7 x1_0.lt
  replace x1_1 := x1_1.below q7 x1_1.lt
  replace x1_2 := x1_2.below q7 x1_2.lt
  replace x4_0 := x4_0.below q7 x4_0.lt
  have bw7 : Below w.heap.size w w7 := bw6.trans (q7.mono bw6.size)
  have lw7 : w6.heap.size ≤ w7.heap.size := q7.size
  clear hb7 q7 bw6
  obtain ⟨cx1_0_0, cx1_0_1⟩ := x1_0.c2
  obtain ⟨fx1_0_0, fx1_0_1⟩ := x1_0.f2
  obtain ⟨lx1_0_0, lx1_0_1, lx1_0_2, lx1_0_3⟩ := lts0 x1_0.lt
  obtain ⟨cx1_1_0, cx1_1_1⟩ := x1_1.c2
  obtain ⟨lx1_1_0, lx1_1_1, lx1_1_2, lx1_1_3⟩ := lts1 x1_1.lt
  obtain ⟨cx4_0_0, cx4_0_1⟩ := x4_0.c2
  obtain ⟨lx4_0_0, lx4_0_1, lx4_0_2, lx4_0_3⟩ := lts0 x4_0.lt
  go_wp2_with fail
  clear cx1_0_0 fx1_0_0 cx1_0_1 fx1_0_1 lx1_0_0 lx1_0_1 lx1_0_2 lx1_0_3 cx1_1_0 cx1_1_1 lx1_1_0 lx1_1_1 lx1_1_2 lx1_1_3 cx4_0_0 cx4_0_1 lx4_0_0 lx4_0_1 lx4_0_2 lx4_0_3
  have p8 : Kp w7 ((w7.setCell ⟨w.heap.size, 0, none⟩ (.bool b7)).setCell ⟨w.heap.size, 1, none⟩ (.slice A7 n7 c7)) := (((Kp.refl w7).setB (p := ⟨w.heap.size, 0, none⟩) x1_0.box (by decide) (.bool b7)).setB (p := ⟨w.heap.size, 1, none⟩) (x1_0.box.set ⟨w.heap.size, 0, none⟩ (.bool b7)) (by decide) (.slice A7 n7 c7))
  have bw8 : Below w.heap.size w ((w7.setCell ⟨w.heap.size, 0, none⟩ (.bool b7)).setCell ⟨w.heap.size, 1, none⟩ (.slice A7 n7 c7)) := ((bw7.setCell (p := ⟨w.heap.size, 0, none⟩) (by dsimp only; omega) (.bool b7)).setCell (p := ⟨w.heap.size, 1, none⟩) (by dsimp only; omega) (.slice A7 n7 c7))
  replace x1_0 : Blk ((w7.setCell ⟨w.heap.size, 0, none⟩ (.bool b7)).setCell ⟨w.heap.size, 1, none⟩ (.slice A7 n7 c7)) (w.heap.size) 48 #[.bool b7, .slice A7 n7 c7] := ((x1_0.set_at 0 (.bool b7) #[.bool b7, .slice A5 n5 c5] (by simp)).set_at 1 (.slice A7 n7 c7) #[.bool b7, .slice A7 n7 c7] (by simp))
  replace x1_1 : Blk ((w7.setCell ⟨w.heap.size, 0, none⟩ (.bool b7)).setCell ⟨w.heap.size, 1, none⟩ (.slice A7 n7 c7)) (w.heap.size + 1) 48 #[.bool b', .slice A' n' c'] := ((x1_1.far (p := ⟨w.heap.size, 0, none⟩) (by dsimp only; omega) (.bool b7)).far (p := ⟨w.heap.size, 1, none⟩) (by dsimp only; omega) (.slice A7 n7 c7))
  replace x1_2 : Blk ((w7.setCell ⟨w.heap.size, 0, none⟩ (.bool b7)).setCell ⟨w.heap.size, 1, none⟩ (.slice A7 n7 c7)) (w.heap.size + 1 + 1) 24 #[.bool false, .slice none 0 0, .slice none 0 0] := ((x1_2.far (p := ⟨w.heap.size, 0, none⟩) (by dsimp only; omega) (.bool b7)).far (p := ⟨w.heap.size, 1, none⟩) (by dsimp only; omega) (.slice A7 n7 c7))
  replace x4_0 : Blk ((w7.setCell ⟨w.heap.size, 0, none⟩ (.bool b7)).setCell ⟨w.heap.size, 1, none⟩ (.slice A7 n7 c7)) (w3.heap.size) 48 #[.bool b3, .slice A3 n3 c3] := ((x4_0.far (p := ⟨w.heap.size, 0, none⟩) (by dsimp only; omega) (.bool b7)).far (p := ⟨w.heap.size, 1, none⟩) (by dsimp only; omega) (.slice A7 n7 c7))
  have lw8 : w7.heap.size + 0 ≤ ((w7.setCell ⟨w.heap.size, 0, none⟩ (.bool b7)).setCell ⟨w.heap.size, 1, none⟩ (.slice A7 n7 c7)).heap.size := by simp
  generalize hE8 : ((w7.setCell ⟨w.heap.size, 0, none⟩ (.bool b7)).setCell ⟨w.heap.size, 1, none⟩ (.slice A7 n7 c7)) = w8 at p8 bw8 lw8 x1_0 x1_1 x1_2 x4_0 ⊢
  clear hE8
  replace h := h.keep p8
  replace h' := h'.keep p8
  replace h3 := h3.keep p8
  replace h5 := h5.keep p8
  replace h7 := h7.keep p8
  replace h'7 := h'7.keep p8
  clear bw7
  (with_reducible refine (i_div _ b' A' n' c' (z') (k') ?_ b3 A3 n3 c3 ((Nat.gcd ((z)).natAbs ((z')).natAbs : Nat)) ((k) + (k')) ?_  ?_ ?_).mono ?_); (exact h'); (exact h3.iz); (omega); (exact HG.out); rintro e w9 ⟨b9, A9, n9, c9, b'9, A'9, n'9, c'9, rfl, h9, h'9, hb9⟩
  have q9 : Below w8.heap.size w8 w9 := hb9
  replace h := h.belw q9
  replace h' := h'.belw q9
  replace h3 := h3.belw q9
  replace h5 := h5.belw q9
  replace h7 := h7.belw q9
  replace h'7 := h'7.belw q9
  replace x1_0 := x1_0.below q9 x1_0.lt
  replace x1_1 := x1_1.below q9 x1_1.lt
  replace x1_2 := x1_2.below q9 x1_2.lt
  replace x4_0 := x4_0.below q9 x4_0.lt
  have bw9 : Below w.heap.size w w9 := bw8.trans (q9.mono bw8.size)
  have lw9 : w8.heap.size ≤ w9.heap.size := q9.size
  clear hb9 q9 bw8
  obtain ⟨cx1_0_0, cx1_0_1⟩ := x1_0.c2
  obtain ⟨lx1_0_0, lx1_0_1, lx1_0_2, lx1_0_3⟩ := lts0 x1_0.lt
  obtain ⟨cx1_1_0, cx1_1_1⟩ := x1_1.c2
  obtain ⟨fx1_1_0, fx1_1_1⟩ := x1_1.f2
  obtain ⟨lx1_1_0, lx1_1_1, lx1_1_2, lx1_1_3⟩ := lts1 x1_1.lt
  obtain ⟨cx1_2_0, cx1_2_1, cx1_2_2⟩ := x1_2.c3
  obtain ⟨fx1_2_0, fx1_2_1, fx1_2_2⟩ := x1_2.f3
  obtain ⟨lx1_2_0, lx1_2_1, lx1_2_2, lx1_2_3⟩ := lts2 x1_2.lt
  go_wp2_with fail
  refine bodyPost_ret (v := .agg #[.bool true, .slice A7 n7 c7, .slice A9 n9 c9]) (by simp [results, Tryz.results125, go_sem, *] <;> first | rfl | exact ⟨rfl, rfl⟩) rfl ?_
  obtain ⟨e1, e2, e3⟩ := form_neg HN.out HP.out HQ.out
  exact ⟨_, _, _, _, _, _, _, rfl, QV.mk_ (by rw [e1]; exact h7.2.1.keep ((((((Kp.refl w9).setB (p := ⟨w.heap.size + 1, 0, none⟩) x1_1.box (by decide) (.bool b9)).setB (p := ⟨w.heap.size + 1, 1, none⟩) (x1_1.box.set ⟨w.heap.size + 1, 0, none⟩ (.bool b9)) (by decide) (.slice A9 n9 c9)).setB (p := ⟨w.heap.size + 1 + 1, 0, none⟩) ((x1_2.box.set ⟨w.heap.size + 1, 0, none⟩ (.bool b9)).set ⟨w.heap.size + 1, 1, none⟩ (.slice A9 n9 c9)) (by decide) (.bool true)).setB (p := ⟨w.heap.size + 1 + 1, 1, none⟩) (((x1_2.box.set ⟨w.heap.size + 1, 0, none⟩ (.bool b9)).set ⟨w.heap.size + 1, 1, none⟩ (.slice A9 n9 c9)).set ⟨w.heap.size + 1 + 1, 0, none⟩ (.bool true)) (by decide) (.slice A7 n7 c7)).setB (p := ⟨w.heap.size + 1 + 1, 2, none⟩) ((((x1_2.box.set ⟨w.heap.size + 1, 0, none⟩ (.bool b9)).set ⟨w.heap.size + 1, 1, none⟩ (.slice A9 n9 c9)).set ⟨w.heap.size + 1 + 1, 0, none⟩ (.bool true)).set ⟨w.heap.size + 1 + 1, 1, none⟩ (.slice A7 n7 c7)) (by decide) (.slice A9 n9 c9))) (by rw [e2]; exact h9.2.1.keep ((((((Kp.refl w9).setB (p := ⟨w.heap.size + 1, 0, none⟩) x1_1.box (by decide) (.bool b9)).setB (p := ⟨w.heap.size + 1, 1, none⟩) (x1_1.box.set ⟨w.heap.size + 1, 0, none⟩ (.bool b9)) (by decide) (.slice A9 n9 c9)).setB (p := ⟨w.heap.size + 1 + 1, 0, none⟩) ((x1_2.box.set ⟨w.heap.size + 1, 0, none⟩ (.bool b9)).set ⟨w.heap.size + 1, 1, none⟩ (.slice A9 n9 c9)) (by decide) (.bool true)).setB (p := ⟨w.heap.size + 1 + 1, 1, none⟩) (((x1_2.box.set ⟨w.heap.size + 1, 0, none⟩ (.bool b9)).set ⟨w.heap.size + 1, 1, none⟩ (.slice A9 n9 c9)).set ⟨w.heap.size + 1 + 1, 0, none⟩ (.bool true)) (by decide) (.slice A7 n7 c7)).setB (p := ⟨w.heap.size + 1 + 1, 2, none⟩) ((((x1_2.box.set ⟨w.heap.size + 1, 0, none⟩ (.bool b9)).set ⟨w.heap.size + 1, 1, none⟩ (.slice A9 n9 c9)).set ⟨w.heap.size + 1 + 1, 0, none⟩ (.bool true)).set ⟨w.heap.size + 1 + 1, 1, none⟩ (.slice A7 n7 c7)) (by decide) (.slice A9 n9 c9))) e3 HS.out, (((((bw9.setCell (p := ⟨w.heap.size + 1, 0, none⟩) (by dsimp only; omega) (.bool b9)).setCell (p := ⟨w.heap.size + 1, 1, none⟩) (by dsimp only; omega) (.slice A9 n9 c9)).setCell (p := ⟨w.heap.size + 1 + 1, 0, none⟩) (by dsimp only; omega) (.bool true)).setCell (p := ⟨w.heap.size + 1 + 1, 1, none⟩) (by dsimp only; omega) (.slice A7 n7 c7)).setCell (p := ⟨w.heap.size + 1 + 1, 2, none⟩) (by dsimp only; omega) (.slice A9 n9 c9))⟩
set_option maxHeartbeats 2000000 in
/-- fraction.form -/
theorem f_form_np (w : World) (b : Bool) (A : Option Addr) (n c : Nat) (z : Int) (k : Nat) (h : IZ w b A n c z k) (b' : Bool) (A' : Option Addr) (n' c' : Nat) (z' : Int) (k' : Nat) (h' : IZ w b' A' n' c' z' k') (q : Rat) (K : Nat) (hz : z.sign = 1) (hd : z'.sign = -1) (hq : Rat.divInt z z' = q) (hs : Sz q K) (hk : k + k' ≤ 300000000) :
    Calls Tryz.prog 125 #[.agg #[.bool b, .slice A n c], .agg #[.bool b', .slice A' n' c']] w (RetF w q K) := by
  have HZ := Lib.hid hz
  have HD := Lib.hid hd
  have HN := Lib.hid (show ((-z)).sign = -1 by rw [Int.sign_neg, hz] <;> rfl)
  have HP := Lib.hid (show 0 < (-z') by exact sign_neg_ hd)
  have HG := Lib.hid (show ((Nat.gcd ((-z)).natAbs ((-z')).natAbs : Nat) : Int) ≠ 0 from gcd_ne HP.out)
  have HQ := Lib.hid (show Rat.divInt (-z) (-z') = q by rw [divInt_neg_neg _ _ (sign_ne hd)]; exact hq)
  have HS := Lib.hid hs
  clear hz hd hq hs
  go_enter Tryz.func125, Tryz.ntmps125
  go_wp2_with fail
  (with_reducible refine (i_sign_e _ b A n c (z) (k) ?_ (1) ?_ ?_).mono ?_); (exact (h.belw ((((Below.refl _ _).alloc (Nat.le_refl _) _).alloc (by simp) _).alloc (by simp <;> omega) _))); (exact HZ.out); (omega); rintro e w1 ⟨rfl, hb1⟩
  have q1 : Below w.heap.size w w1 := ((((Below.refl _ _).alloc (Nat.le_refl _) _).alloc (by simp) _).alloc (by simp <;> omega) _).trans (hb1.mono (by simp <;> omega))
  replace h := h.belw q1
  replace h' := h'.belw q1
  have x1_0 : Blk w1 (w.heap.size) 48 #[.bool b, .slice A n c] := (((blkAt _ _ _ (by simp)).alloc _).alloc _).below hb1 (by simp <;> omega)
  have x1_1 : Blk w1 (w.heap.size + 1) 48 #[.bool b', .slice A' n' c'] := ((blkAt _ _ _ (by simp)).alloc _).below hb1 (by simp <;> omega)
  have x1_2 : Blk w1 (w.heap.size + 1 + 1) 24 #[.bool false, .slice none 0 0, .slice none 0 0] := (blkAt _ _ _ (by simp)).below hb1 (by simp)
  have bw1 : Below w.heap.size w w1 := (brefl w).trans (q1.mono (brefl w).size)
  have lw1 : w.heap.size + 3 ≤ w1.heap.size := by have := hb1.size; simp at this; omega
  clear hb1 q1
  obtain ⟨cx1_1_0, cx1_1_1⟩ := x1_1.c2
  obtain ⟨lx1_1_0, lx1_1_1, lx1_1_2, lx1_1_3⟩ := lts1 x1_1.lt
  go_wp2_with fail
  (with_reducible refine (i_sign_e _ b' A' n' c' (z') (k') ?_ (-1) ?_ ?_).mono ?_); (exact h'); (exact HD.out); (omega); rintro e w2 ⟨rfl, hb2⟩
  clear cx1_1_0 cx1_1_1 lx1_1_0 lx1_1_1 lx1_1_2 lx1_1_3
  have q2 : Below w1.heap.size w1 w2 := hb2
  replace h := h.belw q2
  replace h' := h'.belw q2
  replace x1_0 := x1_0.below q2 x1_0.lt
  replace x1_1 := x1_1.below q2 x1_1.lt
  replace x1_2 := x1_2.below q2 x1_2.lt
  have bw2 : Below w.heap.size w w2 := bw1.trans (q2.mono bw1.size)
  have lw2 : w1.heap.size ≤ w2.heap.size := q2.size
  clear hb2 q2 bw1
  go_wp2_with fail
  obtain ⟨cx1_0_0, cx1_0_1⟩ := x1_0.c2
  obtain ⟨cx1_1_0, cx1_1_1⟩ := x1_1.c2
  go_cut [2] (fun s2 wx => s2 = .pointer (some ⟨w.heap.size, 0, none⟩) ∧ ∃ b8 A8 n8 c8 b9 A9 n9 c9, Blk wx (w.heap.size) 48 #[.bool b8, .slice A8 n8 c8] ∧ Blk wx (w.heap.size + 1) 48 #[.bool b9, .slice A9 n9 c9] ∧ Blk wx (w.heap.size + 1 + 1) 24 #[.bool false, .slice none 0 0, .slice none 0 0] ∧ IV wx b8 A8 n8 c8 (-z) k ∧ IV wx b9 A9 n9 c9 (-z') k' ∧ Below w.heap.size w wx ∧ w2.heap.size ≤ wx.heap.size)
  case first =>
    go_region_with (first
      | (go_at_call 129; (with_reducible refine (i_neg _ b A n c (z) (k) ?_ ?_).mono ?_); (exact h); (omega); rintro e w3 ⟨b4, A4, n4, c4, rfl, h4, hb4⟩; replace hb4 := bnext (below_drewN (brefl _) 1) hb4; replace h' := h'.belw hb4; have bw4 := bw2.trans (hb4.mono bw2.size); have lw4 := hb4.size; replace x1_0 := x1_0.below hb4 x1_0.lt; replace x1_1 := x1_1.below hb4 x1_1.lt; replace x1_2 := x1_2.below hb4 x1_2.lt; obtain ⟨dx1_1_0, dx1_1_1⟩ := x1_1.c2)
      | (go_at_call 129; (with_reducible refine (i_neg _ b' A' n' c' (z') (k') ?_ ?_).mono ?_); (exact h'); (omega); rintro e w4 ⟨b5, A5, n5, c5, rfl, h5, hb5⟩; replace h4 := h4.belw hb5; have bw5 := bw4.trans (hb5.mono bw4.size); have lw5 := hb5.size; replace x1_0 := x1_0.below hb5 x1_0.lt; replace x1_1 := x1_1.below hb5 x1_1.lt; replace x1_2 := x1_2.below hb5 x1_2.lt; obtain ⟨ex1_0_0, ex1_0_1⟩ := x1_0.c2; obtain ⟨fx1_0_0, fx1_0_1⟩ := x1_0.f2; obtain ⟨ex1_1_0, ex1_1_1⟩ := x1_1.c2; obtain ⟨fx1_1_0, fx1_1_1⟩ := x1_1.f2))
    all_goals
      go_wp2_with fail
      go_meet
      have kp := (((((Kp.refl w4).setB (p := ⟨w.heap.size, 0, none⟩) x1_0.box (by decide) (.bool b4)).setB (p := ⟨w.heap.size, 1, none⟩) (x1_0.box.set ⟨w.heap.size, 0, none⟩ (.bool b4)) (by decide) (.slice A4 n4 c4)).setB (p := ⟨w.heap.size + 1, 0, none⟩) ((x1_1.box.set ⟨w.heap.size, 0, none⟩ (.bool b4)).set ⟨w.heap.size, 1, none⟩ (.slice A4 n4 c4)) (by decide) (.bool b5)).setB (p := ⟨w.heap.size + 1, 1, none⟩) (((x1_1.box.set ⟨w.heap.size, 0, none⟩ (.bool b4)).set ⟨w.heap.size, 1, none⟩ (.slice A4 n4 c4)).set ⟨w.heap.size + 1, 0, none⟩ (.bool b5)) (by decide) (.slice A5 n5 c5))
      exact ⟨rfl, b4, A4, n4, c4, b5, A5, n5, c5, ((((x1_0.set_at 0 (.bool b4) #[.bool b4, .slice A n c] (by simp)).set_at 1 (.slice A4 n4 c4) #[.bool b4, .slice A4 n4 c4] (by simp)).far (p := ⟨w.heap.size + 1, 0, none⟩) (by dsimp only; omega) (.bool b5)).far (p := ⟨w.heap.size + 1, 1, none⟩) (by dsimp only; omega) (.slice A5 n5 c5)), ((((x1_1.far (p := ⟨w.heap.size, 0, none⟩) (by dsimp only; omega) (.bool b4)).far (p := ⟨w.heap.size, 1, none⟩) (by dsimp only; omega) (.slice A4 n4 c4)).set_at 0 (.bool b5) #[.bool b5, .slice A' n' c'] (by simp)).set_at 1 (.slice A5 n5 c5) #[.bool b5, .slice A5 n5 c5] (by simp)), ((((x1_2.far (p := ⟨w.heap.size, 0, none⟩) (by dsimp only; omega) (.bool b4)).far (p := ⟨w.heap.size, 1, none⟩) (by dsimp only; omega) (.slice A4 n4 c4)).far (p := ⟨w.heap.size + 1, 0, none⟩) (by dsimp only; omega) (.bool b5)).far (p := ⟨w.heap.size + 1, 1, none⟩) (by dsimp only; omega) (.slice A5 n5 c5)), h4.keep kp, h5.keep kp, ((((bw5.setCell (p := ⟨w.heap.size, 0, none⟩) (by dsimp only; omega) (.bool b4)).setCell (p := ⟨w.heap.size, 1, none⟩) (by dsimp only; omega) (.slice A4 n4 c4)).setCell (p := ⟨w.heap.size + 1, 0, none⟩) (by dsimp only; omega) (.bool b5)).setCell (p := ⟨w.heap.size + 1, 1, none⟩) (by dsimp only; omega) (.slice A5 n5 c5)), by simp [World.setCell]; omega⟩
  case rest =>
    clear h h'
    obtain ⟨rfl, b8, A8, n8, c8, b9, A9, n9, c9, y0, y1, y2, h8, h9, bwc, lwc⟩ := hcut
    clear x1_0 x1_1 x1_2
    have cy0_0 : wc.cell? ⟨w.heap.size, 0, none⟩ = some (.bool b8) := y0.cell 0
    have cy0_1 : wc.cell? ⟨w.heap.size, 1, none⟩ = some (.slice A8 n8 c8) := y0.cell 1
    obtain ⟨ly0_0, ly0_1, ly0_2, ly0_3⟩ := lts0 y0.lt
    have cy1_0 : wc.cell? ⟨w.heap.size + 1, 0, none⟩ = some (.bool b9) := y1.cell 0
    have cy1_1 : wc.cell? ⟨w.heap.size + 1, 1, none⟩ = some (.slice A9 n9 c9) := y1.cell 1
    obtain ⟨ly1_0, ly1_1, ly1_2, ly1_3⟩ := lts1 y1.lt
    go_wp2_with fail
    (with_reducible refine (i_gcd _ b8 A8 n8 c8 (-z) (k) ?_ b9 A9 n9 c9 (-z') (k') ?_ ?_).mono ?_); (exact h8.iz); (exact h9.iz); (first | omega | decide | assumption); rintro e w13 ⟨b13, A13, n13, c13, rfl, h13, hb13⟩
    clear cy0_0 cy0_1 ly0_0 ly0_1 ly0_2 ly0_3 cy1_0 cy1_1 ly1_0 ly1_1 ly1_2 ly1_3
    have q13 : Below wc.heap.size wc w13 := hb13
    replace h8 := h8.belw q13
    replace h9 := h9.belw q13
    replace y0 := y0.below q13 y0.lt
    replace y1 := y1.below q13 y1.lt
    replace y2 := y2.below q13 y2.lt
    have bw13 : Below w.heap.size w w13 := bwc.trans (q13.mono bwc.size)
    have lw13 : wc.heap.size ≤ w13.heap.size := q13.size
    clear hb13 q13
    obtain ⟨cy0_0, cy0_1⟩ := y0.c2
    obtain ⟨ly0_0, ly0_1, ly0_2, ly0_3⟩ := lts0 y0.lt
    go_wp2_with fail
    (with_reducible refine (i_sign_e _ b8 A8 n8 c8 (-z) (k) ?_ (-1) ?_ ?_).mono ?_); (exact (h8.belw ((Below.refl _ _).alloc (Nat.le_refl _) _)).iz); (exact HN.out); (omega); rintro e w14 ⟨rfl, hb14⟩
    clear cy0_0 cy0_1 ly0_0 ly0_1 ly0_2 ly0_3
    have q14 : Below w13.heap.size w13 w14 := ((Below.refl _ _).alloc (Nat.le_refl _) _).trans (hb14.mono (by simp))
    replace h8 := h8.belw q14
    replace h9 := h9.belw q14
    replace h13 := h13.belw q14
    replace y0 := y0.below q14 y0.lt
    replace y1 := y1.below q14 y1.lt
    replace y2 := y2.below q14 y2.lt
    have x14_0 : Blk w14 (w13.heap.size) 48 #[.bool b13, .slice A13 n13 c13] := (blkAt _ _ _ (by simp)).below hb14 (by simp)
    have bw14 : Below w.heap.size w w14 := bw13.trans (q14.mono bw13.size)
    have lw14 : w13.heap.size + 1 ≤ w14.heap.size := by have := hb14.size; simp at this; omega
    clear hb14 q14 bw13
    obtain ⟨cy0_0, cy0_1⟩ := y0.c2
    obtain ⟨ly0_0, ly0_1, ly0_2, ly0_3⟩ := lts0 y0.lt
    go_wp2_with fail
    (with_reducible refine (i_neg _ b8 A8 n8 c8 (-z) (k) ?_ ?_).mono ?_); (exact h8.iz); (first | omega | decide | assumption); rintro e w15 ⟨b15, A15, n15, c15, rfl, h15, hb15⟩
    clear cy0_0 cy0_1 ly0_0 ly0_1 ly0_2 ly0_3
    have q15 : Below w14.heap.size w14 w15 := hb15
    replace h8 := h8.belw q15
    replace h9 := h9.belw q15
    replace h13 := h13.belw q15
    replace y0 := y0.below q15 y0.lt
    replace y1 := y1.below q15 y1.lt
    replace y2 := y2.below q15 y2.lt
    replace x14_0 := x14_0.below q15 x14_0.lt
    have bw15 : Below w.heap.size w w15 := bw14.trans (q15.mono bw14.size)
    have lw15 : w14.heap.size ≤ w15.heap.size := q15.size
    clear hb15 q15 bw14
    obtain ⟨cy0_0, cy0_1⟩ := y0.c2
    obtain ⟨fy0_0, fy0_1⟩ := y0.f2
    obtain ⟨ly0_0, ly0_1, ly0_2, ly0_3⟩ := lts0 y0.lt
    obtain ⟨cx14_0_0, cx14_0_1⟩ := x14_0.c2
    obtain ⟨lx14_0_0, lx14_0_1, lx14_0_2, lx14_0_3⟩ := lts0 x14_0.lt
    go_wp2_with fail
    clear cy0_0 fy0_0 cy0_1 fy0_1 ly0_0 ly0_1 ly0_2 ly0_3 cx14_0_0 cx14_0_1 lx14_0_0 lx14_0_1 lx14_0_2 lx14_0_3
    have p16 : Kp w15 ((w15.setCell ⟨w.heap.size, 0, none⟩ (.bool b15)).setCell ⟨w.heap.size, 1, none⟩ (.slice A15 n15 c15)) := (((Kp.refl w15).setB (p := ⟨w.heap.size, 0, none⟩) y0.box (by decide) (.bool b15)).setB (p := ⟨w.heap.size, 1, none⟩) (y0.box.set ⟨w.heap.size, 0, none⟩ (.bool b15)) (by decide) (.slice A15 n15 c15))
    have bw16 : Below w.heap.size w ((w15.setCell ⟨w.heap.size, 0, none⟩ (.bool b15)).setCell ⟨w.heap.size, 1, none⟩ (.slice A15 n15 c15)) := ((bw15.setCell (p := ⟨w.heap.size, 0, none⟩) (by dsimp only; omega) (.bool b15)).setCell (p := ⟨w.heap.size, 1, none⟩) (by dsimp only; omega) (.slice A15 n15 c15))
    replace y0 : Blk ((w15.setCell ⟨w.heap.size, 0, none⟩ (.bool b15)).setCell ⟨w.heap.size, 1, none⟩ (.slice A15 n15 c15)) (w.heap.size) 48 #[.bool b15, .slice A15 n15 c15] := ((y0.set_at 0 (.bool b15) #[.bool b15, .slice A8 n8 c8] (by simp)).set_at 1 (.slice A15 n15 c15) #[.bool b15, .slice A15 n15 c15] (by simp))
    replace y1 : Blk ((w15.setCell ⟨w.heap.size, 0, none⟩ (.bool b15)).setCell ⟨w.heap.size, 1, none⟩ (.slice A15 n15 c15)) (w.heap.size + 1) 48 #[.bool b9, .slice A9 n9 c9] := ((y1.far (p := ⟨w.heap.size, 0, none⟩) (by dsimp only; omega) (.bool b15)).far (p := ⟨w.heap.size, 1, none⟩) (by dsimp only; omega) (.slice A15 n15 c15))
    replace y2 : Blk ((w15.setCell ⟨w.heap.size, 0, none⟩ (.bool b15)).setCell ⟨w.heap.size, 1, none⟩ (.slice A15 n15 c15)) (w.heap.size + 1 + 1) 24 #[.bool false, .slice none 0 0, .slice none 0 0] := ((y2.far (p := ⟨w.heap.size, 0, none⟩) (by dsimp only; omega) (.bool b15)).far (p := ⟨w.heap.size, 1, none⟩) (by dsimp only; omega) (.slice A15 n15 c15))
    replace x14_0 : Blk ((w15.setCell ⟨w.heap.size, 0, none⟩ (.bool b15)).setCell ⟨w.heap.size, 1, none⟩ (.slice A15 n15 c15)) (w13.heap.size) 48 #[.bool b13, .slice A13 n13 c13] := ((x14_0.far (p := ⟨w.heap.size, 0, none⟩) (by dsimp only; omega) (.bool b15)).far (p := ⟨w.heap.size, 1, none⟩) (by dsimp only; omega) (.slice A15 n15 c15))
    have lw16 : w15.heap.size + 0 ≤ ((w15.setCell ⟨w.heap.size, 0, none⟩ (.bool b15)).setCell ⟨w.heap.size, 1, none⟩ (.slice A15 n15 c15)).heap.size := by simp
    generalize hE16 : ((w15.setCell ⟨w.heap.size, 0, none⟩ (.bool b15)).setCell ⟨w.heap.size, 1, none⟩ (.slice A15 n15 c15)) = w16 at p16 bw16 lw16 y0 y1 y2 x14_0 ⊢
    clear hE16
    replace h8 := h8.keep p16
    replace h9 := h9.keep p16
    replace h13 := h13.keep p16
    replace h15 := h15.keep p16
    clear bw15
    (with_reducible refine (i_div _ b15 A15 n15 c15 (-(-z)) ((k)) ?_ b13 A13 n13 c13 ((Nat.gcd ((-z)).natAbs ((-z')).natAbs : Nat)) ((k) + (k')) ?_  ?_ ?_).mono ?_); (exact h15.iz); (exact h13.iz); (omega); (exact HG.out); rintro e w17 ⟨b17, A17, n17, c17, b'17, A'17, n'17, c'17, rfl, h17, h'17, hb17⟩
    have q17 : Below w16.heap.size w16 w17 := hb17
    replace h8 := h8.belw q17
    replace h9 := h9.belw q17
    replace h13 := h13.belw q17
    replace h15 := h15.belw q17
    replace y0 := y0.below q17 y0.lt
    replace y1 := y1.below q17 y1.lt
    replace y2 := y2.below q17 y2.lt
    replace x14_0 := x14_0.below q17 x14_0.lt
    have bw17 : Below w.heap.size w w17 := bw16.trans (q17.mono bw16.size)
    have lw17 : w16.heap.size ≤ w17.heap.size := q17.size
    clear hb17 q17 bw16
    obtain ⟨cy0_0, cy0_1⟩ := y0.c2
    obtain ⟨fy0_0, fy0_1⟩ := y0.f2
    obtain ⟨ly0_0, ly0_1, ly0_2, ly0_3⟩ := lts0 y0.lt
    obtain ⟨cy1_0, cy1_1⟩ := y1.c2
    obtain ⟨ly1_0, ly1_1, ly1_2, ly1_3⟩ := lts1 y1.lt
    obtain ⟨cx14_0_0, cx14_0_1⟩ := x14_0.c2
    obtain ⟨lx14_0_0, lx14_0_1, lx14_0_2, lx14_0_3⟩ := lts0 x14_0.lt
    go_wp2_with fail
    clear cy0_0 fy0_0 cy0_1 fy0_1 ly0_0 ly0_1 ly0_2 ly0_3 cy1_0 cy1_1 ly1_0 ly1_1 ly1_2 ly1_3 cx14_0_0 cx14_0_1 lx14_0_0 lx14_0_1 lx14_0_2 lx14_0_3
    have p18 : Kp w17 ((w17.setCell ⟨w.heap.size, 0, none⟩ (.bool b17)).setCell ⟨w.heap.size, 1, none⟩ (.slice A17 n17 c17)) := (((Kp.refl w17).setB (p := ⟨w.heap.size, 0, none⟩) y0.box (by decide) (.bool b17)).setB (p := ⟨w.heap.size, 1, none⟩) (y0.box.set ⟨w.heap.size, 0, none⟩ (.bool b17)) (by decide) (.slice A17 n17 c17))
    have bw18 : Below w.heap.size w ((w17.setCell ⟨w.heap.size, 0, none⟩ (.bool b17)).setCell ⟨w.heap.size, 1, none⟩ (.slice A17 n17 c17)) := ((bw17.setCell (p := ⟨w.heap.size, 0, none⟩) (by dsimp only; omega) (.bool b17)).setCell (p := ⟨w.heap.size, 1, none⟩) (by dsimp only; omega) (.slice A17 n17 c17))
    replace y0 : Blk ((w17.setCell ⟨w.heap.size, 0, none⟩ (.bool b17)).setCell ⟨w.heap.size, 1, none⟩ (.slice A17 n17 c17)) (w.heap.size) 48 #[.bool b17, .slice A17 n17 c17] := ((y0.set_at 0 (.bool b17) #[.bool b17, .slice A15 n15 c15] (by simp)).set_at 1 (.slice A17 n17 c17) #[.bool b17, .slice A17 n17 c17] (by simp))
    replace y1 : Blk ((w17.setCell ⟨w.heap.size, 0, none⟩ (.bool b17)).setCell ⟨w.heap.size, 1, none⟩ (.slice A17 n17 c17)) (w.heap.size + 1) 48 #[.bool b9, .slice A9 n9 c9] := ((y1.far (p := ⟨w.heap.size, 0, none⟩) (by dsimp only; omega) (.bool b17)).far (p := ⟨w.heap.size, 1, none⟩) (by dsimp only; omega) (.slice A17 n17 c17))
    replace y2 : Blk ((w17.setCell ⟨w.heap.size, 0, none⟩ (.bool b17)).setCell ⟨w.heap.size, 1, none⟩ (.slice A17 n17 c17)) (w.heap.size + 1 + 1) 24 #[.bool false, .slice none 0 0, .slice none 0 0] := ((y2.far (p := ⟨w.heap.size, 0, none⟩) (by dsimp only; omega) (.bool b17)).far (p := ⟨w.heap.size, 1, none⟩) (by dsimp only; omega) (.slice A17 n17 c17))
    replace x14_0 : Blk ((w17.setCell ⟨w.heap.size, 0, none⟩ (.bool b17)).setCell ⟨w.heap.size, 1, none⟩ (.slice A17 n17 c17)) (w13.heap.size) 48 #[.bool b13, .slice A13 n13 c13] := ((x14_0.far (p := ⟨w.heap.size, 0, none⟩) (by dsimp only; omega) (.bool b17)).far (p := ⟨w.heap.size, 1, none⟩) (by dsimp only; omega) (.slice A17 n17 c17))
    have lw18 : w17.heap.size + 0 ≤ ((w17.setCell ⟨w.heap.size, 0, none⟩ (.bool b17)).setCell ⟨w.heap.size, 1, none⟩ (.slice A17 n17 c17)).heap.size := by simp
    generalize hE18 : ((w17.setCell ⟨w.heap.size, 0, none⟩ (.bool b17)).setCell ⟨w.heap.size, 1, none⟩ (.slice A17 n17 c17)) = w18 at p18 bw18 lw18 y0 y1 y2 x14_0 ⊢
    clear hE18
    replace h8 := h8.keep p18
    replace h9 := h9.keep p18
    replace h13 := h13.keep p18
    replace h15 := h15.keep p18
    replace h17 := h17.keep p18
    replace h'17 := h'17.keep p18
    clear bw17
    (with_reducible refine (i_div _ b9 A9 n9 c9 (-z') (k') ?_ b13 A13 n13 c13 ((Nat.gcd ((-z)).natAbs ((-z')).natAbs : Nat)) ((k) + (k')) ?_  ?_ ?_).mono ?_); (exact h9.iz); (exact h13.iz); (omega); (exact HG.out); rintro e w19 ⟨b19, A19, n19, c19, b'19, A'19, n'19, c'19, rfl, h19, h'19, hb19⟩
    have q19 : Below w18.heap.size w18 w19 := hb19
    replace h8 := h8.belw q19
    replace h9 := h9.belw q19
    replace h13 := h13.belw q19
    replace h15 := h15.belw q19
    replace h17 := h17.belw q19
    replace h'17 := h'17.belw q19
    replace y0 := y0.below q19 y0.lt
    replace y1 := y1.below q19 y1.lt
    replace y2 := y2.below q19 y2.lt
    replace x14_0 := x14_0.below q19 x14_0.lt
    have bw19 : Below w.heap.size w w19 := bw18.trans (q19.mono bw18.size)
    have lw19 : w18.heap.size ≤ w19.heap.size := q19.size
    clear hb19 q19 bw18
    obtain ⟨cy0_0, cy0_1⟩ := y0.c2
    obtain ⟨ly0_0, ly0_1, ly0_2, ly0_3⟩ := lts0 y0.lt
    obtain ⟨cy1_0, cy1_1⟩ := y1.c2
    obtain ⟨fy1_0, fy1_1⟩ := y1.f2
    obtain ⟨ly1_0, ly1_1, ly1_2, ly1_3⟩ := lts1 y1.lt
    obtain ⟨cy2_0, cy2_1, cy2_2⟩ := y2.c3
    obtain ⟨fy2_0, fy2_1, fy2_2⟩ := y2.f3
    obtain ⟨ly2_0, ly2_1, ly2_2, ly2_3⟩ := lts2 y2.lt
    go_wp2_with fail
    refine bodyPost_ret (v := .agg #[.bool true, .slice A17 n17 c17, .slice A19 n19 c19]) (by simp [results, Tryz.results125, go_sem, *] <;> first | rfl | exact ⟨rfl, rfl⟩) rfl ?_
    obtain ⟨e1, e2, e3⟩ := form_neg HN.out HP.out HQ.out
    exact ⟨_, _, _, _, _, _, _, rfl, QV.mk_ (by rw [e1]; exact h17.2.1.keep ((((((Kp.refl w19).setB (p := ⟨w.heap.size + 1, 0, none⟩) y1.box (by decide) (.bool b19)).setB (p := ⟨w.heap.size + 1, 1, none⟩) (y1.box.set ⟨w.heap.size + 1, 0, none⟩ (.bool b19)) (by decide) (.slice A19 n19 c19)).setB (p := ⟨w.heap.size + 1 + 1, 0, none⟩) ((y2.box.set ⟨w.heap.size + 1, 0, none⟩ (.bool b19)).set ⟨w.heap.size + 1, 1, none⟩ (.slice A19 n19 c19)) (by decide) (.bool true)).setB (p := ⟨w.heap.size + 1 + 1, 1, none⟩) (((y2.box.set ⟨w.heap.size + 1, 0, none⟩ (.bool b19)).set ⟨w.heap.size + 1, 1, none⟩ (.slice A19 n19 c19)).set ⟨w.heap.size + 1 + 1, 0, none⟩ (.bool true)) (by decide) (.slice A17 n17 c17)).setB (p := ⟨w.heap.size + 1 + 1, 2, none⟩) ((((y2.box.set ⟨w.heap.size + 1, 0, none⟩ (.bool b19)).set ⟨w.heap.size + 1, 1, none⟩ (.slice A19 n19 c19)).set ⟨w.heap.size + 1 + 1, 0, none⟩ (.bool true)).set ⟨w.heap.size + 1 + 1, 1, none⟩ (.slice A17 n17 c17)) (by decide) (.slice A19 n19 c19))) (by rw [e2]; exact h19.2.1.keep ((((((Kp.refl w19).setB (p := ⟨w.heap.size + 1, 0, none⟩) y1.box (by decide) (.bool b19)).setB (p := ⟨w.heap.size + 1, 1, none⟩) (y1.box.set ⟨w.heap.size + 1, 0, none⟩ (.bool b19)) (by decide) (.slice A19 n19 c19)).setB (p := ⟨w.heap.size + 1 + 1, 0, none⟩) ((y2.box.set ⟨w.heap.size + 1, 0, none⟩ (.bool b19)).set ⟨w.heap.size + 1, 1, none⟩ (.slice A19 n19 c19)) (by decide) (.bool true)).setB (p := ⟨w.heap.size + 1 + 1, 1, none⟩) (((y2.box.set ⟨w.heap.size + 1, 0, none⟩ (.bool b19)).set ⟨w.heap.size + 1, 1, none⟩ (.slice A19 n19 c19)).set ⟨w.heap.size + 1 + 1, 0, none⟩ (.bool true)) (by decide) (.slice A17 n17 c17)).setB (p := ⟨w.heap.size + 1 + 1, 2, none⟩) ((((y2.box.set ⟨w.heap.size + 1, 0, none⟩ (.bool b19)).set ⟨w.heap.size + 1, 1, none⟩ (.slice A19 n19 c19)).set ⟨w.heap.size + 1 + 1, 0, none⟩ (.bool true)).set ⟨w.heap.size + 1 + 1, 1, none⟩ (.slice A17 n17 c17)) (by decide) (.slice A19 n19 c19))) e3 HS.out, (((((bw19.setCell (p := ⟨w.heap.size + 1, 0, none⟩) (by dsimp only; omega) (.bool b19)).setCell (p := ⟨w.heap.size + 1, 1, none⟩) (by dsimp only; omega) (.slice A19 n19 c19)).setCell (p := ⟨w.heap.size + 1 + 1, 0, none⟩) (by dsimp only; omega) (.bool true)).setCell (p := ⟨w.heap.size + 1 + 1, 1, none⟩) (by dsimp only; omega) (.slice A17 n17 c17)).setCell (p := ⟨w.heap.size + 1 + 1, 2, none⟩) (by dsimp only; omega) (.slice A19 n19 c19))⟩
set_option maxHeartbeats 2000000 in
/-- fraction.form -/
theorem f_form_nn (w : World) (b : Bool) (A : Option Addr) (n c : Nat) (z : Int) (k : Nat) (h : IZ w b A n c z k) (b' : Bool) (A' : Option Addr) (n' c' : Nat) (z' : Int) (k' : Nat) (h' : IZ w b' A' n' c' z' k') (q : Rat) (K : Nat) (hz : z.sign = -1) (hd : z'.sign = -1) (hq : Rat.divInt z z' = q) (hs : Sz q K) (hk : k + k' ≤ 300000000) :
    Calls Tryz.prog 125 #[.agg #[.bool b, .slice A n c], .agg #[.bool b', .slice A' n' c']] w (RetF w q K) := by
  have HZ := Lib.hid hz
  have HD := Lib.hid hd
  have HN := Lib.hid (show ((-z)).sign = 1 by rw [Int.sign_neg, hz] <;> rfl)
  have HP := Lib.hid (show 0 < (-z') by exact sign_neg_ hd)
  have HG := Lib.hid (show ((Nat.gcd ((-z)).natAbs ((-z')).natAbs : Nat) : Int) ≠ 0 from gcd_ne HP.out)
  have HQ := Lib.hid (show Rat.divInt (-z) (-z') = q by rw [divInt_neg_neg _ _ (sign_ne hd)]; exact hq)
  have HS := Lib.hid hs
  clear hz hd hq hs
  go_enter Tryz.func125, Tryz.ntmps125
  go_wp2_with fail
  (with_reducible refine (i_sign_e _ b A n c (z) (k) ?_ (-1) ?_ ?_).mono ?_); (exact (h.belw ((((Below.refl _ _).alloc (Nat.le_refl _) _).alloc (by simp) _).alloc (by simp <;> omega) _))); (exact HZ.out); (omega); rintro e w1 ⟨rfl, hb1⟩
  have q1 : Below w.heap.size w w1 := ((((Below.refl _ _).alloc (Nat.le_refl _) _).alloc (by simp) _).alloc (by simp <;> omega) _).trans (hb1.mono (by simp <;> omega))
  replace h := h.belw q1
  replace h' := h'.belw q1
  have x1_0 : Blk w1 (w.heap.size) 48 #[.bool b, .slice A n c] := (((blkAt _ _ _ (by simp)).alloc _).alloc _).below hb1 (by simp <;> omega)
  have x1_1 : Blk w1 (w.heap.size + 1) 48 #[.bool b', .slice A' n' c'] := ((blkAt _ _ _ (by simp)).alloc _).below hb1 (by simp <;> omega)
  have x1_2 : Blk w1 (w.heap.size + 1 + 1) 24 #[.bool false, .slice none 0 0, .slice none 0 0] := (blkAt _ _ _ (by simp)).below hb1 (by simp)
  have bw1 : Below w.heap.size w w1 := (brefl w).trans (q1.mono (brefl w).size)
  have lw1 : w.heap.size + 3 ≤ w1.heap.size := by have := hb1.size; simp at this; omega
  clear hb1 q1
  obtain ⟨cx1_1_0, cx1_1_1⟩ := x1_1.c2
  obtain ⟨lx1_1_0, lx1_1_1, lx1_1_2, lx1_1_3⟩ := lts1 x1_1.lt
  go_wp2_with fail
  (with_reducible refine (i_sign_e _ b' A' n' c' (z') (k') ?_ (-1) ?_ ?_).mono ?_); (exact h'); (exact HD.out); (omega); rintro e w2 ⟨rfl, hb2⟩
  clear cx1_1_0 cx1_1_1 lx1_1_0 lx1_1_1 lx1_1_2 lx1_1_3
  have q2 : Below w1.heap.size w1 w2 := hb2
  replace h := h.belw q2
  replace h' := h'.belw q2
  replace x1_0 := x1_0.below q2 x1_0.lt
  replace x1_1 := x1_1.below q2 x1_1.lt
  replace x1_2 := x1_2.below q2 x1_2.lt
  have bw2 : Below w.heap.size w w2 := bw1.trans (q2.mono bw1.size)
  have lw2 : w1.heap.size ≤ w2.heap.size := q2.size
  clear hb2 q2 bw1
  go_wp2_with fail
  obtain ⟨cx1_0_0, cx1_0_1⟩ := x1_0.c2
  obtain ⟨cx1_1_0, cx1_1_1⟩ := x1_1.c2
  go_cut [2] (fun s2 wx => s2 = .pointer (some ⟨w.heap.size, 0, none⟩) ∧ ∃ b8 A8 n8 c8 b9 A9 n9 c9, Blk wx (w.heap.size) 48 #[.bool b8, .slice A8 n8 c8] ∧ Blk wx (w.heap.size + 1) 48 #[.bool b9, .slice A9 n9 c9] ∧ Blk wx (w.heap.size + 1 + 1) 24 #[.bool false, .slice none 0 0, .slice none 0 0] ∧ IV wx b8 A8 n8 c8 (-z) k ∧ IV wx b9 A9 n9 c9 (-z') k' ∧ Below w.heap.size w wx ∧ w2.heap.size ≤ wx.heap.size)
  case first =>
    go_region_with (first
      | (go_at_call 129; (with_reducible refine (i_neg _ b A n c (z) (k) ?_ ?_).mono ?_); (exact h); (omega); rintro e w3 ⟨b4, A4, n4, c4, rfl, h4, hb4⟩; replace hb4 := bnext (below_drewN (brefl _) 1) hb4; replace h' := h'.belw hb4; have bw4 := bw2.trans (hb4.mono bw2.size); have lw4 := hb4.size; replace x1_0 := x1_0.below hb4 x1_0.lt; replace x1_1 := x1_1.below hb4 x1_1.lt; replace x1_2 := x1_2.below hb4 x1_2.lt; obtain ⟨dx1_1_0, dx1_1_1⟩ := x1_1.c2)
      | (go_at_call 129; (with_reducible refine (i_neg _ b' A' n' c' (z') (k') ?_ ?_).mono ?_); (exact h'); (omega); rintro e w4 ⟨b5, A5, n5, c5, rfl, h5, hb5⟩; replace h4 := h4.belw hb5; have bw5 := bw4.trans (hb5.mono bw4.size); have lw5 := hb5.size; replace x1_0 := x1_0.below hb5 x1_0.lt; replace x1_1 := x1_1.below hb5 x1_1.lt; replace x1_2 := x1_2.below hb5 x1_2.lt; obtain ⟨ex1_0_0, ex1_0_1⟩ := x1_0.c2; obtain ⟨fx1_0_0, fx1_0_1⟩ := x1_0.f2; obtain ⟨ex1_1_0, ex1_1_1⟩ := x1_1.c2; obtain ⟨fx1_1_0, fx1_1_1⟩ := x1_1.f2))
    all_goals
      go_wp2_with fail
      go_meet
      have kp := (((((Kp.refl w4).setB (p := ⟨w.heap.size, 0, none⟩) x1_0.box (by decide) (.bool b4)).setB (p := ⟨w.heap.size, 1, none⟩) (x1_0.box.set ⟨w.heap.size, 0, none⟩ (.bool b4)) (by decide) (.slice A4 n4 c4)).setB (p := ⟨w.heap.size + 1, 0, none⟩) ((x1_1.box.set ⟨w.heap.size, 0, none⟩ (.bool b4)).set ⟨w.heap.size, 1, none⟩ (.slice A4 n4 c4)) (by decide) (.bool b5)).setB (p := ⟨w.heap.size + 1, 1, none⟩) (((x1_1.box.set ⟨w.heap.size, 0, none⟩ (.bool b4)).set ⟨w.heap.size, 1, none⟩ (.slice A4 n4 c4)).set ⟨w.heap.size + 1, 0, none⟩ (.bool b5)) (by decide) (.slice A5 n5 c5))
      exact ⟨rfl, b4, A4, n4, c4, b5, A5, n5, c5, ((((x1_0.set_at 0 (.bool b4) #[.bool b4, .slice A n c] (by simp)).set_at 1 (.slice A4 n4 c4) #[.bool b4, .slice A4 n4 c4] (by simp)).far (p := ⟨w.heap.size + 1, 0, none⟩) (by dsimp only; omega) (.bool b5)).far (p := ⟨w.heap.size + 1, 1, none⟩) (by dsimp only; omega) (.slice A5 n5 c5)), ((((x1_1.far (p := ⟨w.heap.size, 0, none⟩) (by dsimp only; omega) (.bool b4)).far (p := ⟨w.heap.size, 1, none⟩) (by dsimp only; omega) (.slice A4 n4 c4)).set_at 0 (.bool b5) #[.bool b5, .slice A' n' c'] (by simp)).set_at 1 (.slice A5 n5 c5) #[.bool b5, .slice A5 n5 c5] (by simp)), ((((x1_2.far (p := ⟨w.heap.size, 0, none⟩) (by dsimp only; omega) (.bool b4)).far (p := ⟨w.heap.size, 1, none⟩) (by dsimp only; omega) (.slice A4 n4 c4)).far (p := ⟨w.heap.size + 1, 0, none⟩) (by dsimp only; omega) (.bool b5)).far (p := ⟨w.heap.size + 1, 1, none⟩) (by dsimp only; omega) (.slice A5 n5 c5)), h4.keep kp, h5.keep kp, ((((bw5.setCell (p := ⟨w.heap.size, 0, none⟩) (by dsimp only; omega) (.bool b4)).setCell (p := ⟨w.heap.size, 1, none⟩) (by dsimp only; omega) (.slice A4 n4 c4)).setCell (p := ⟨w.heap.size + 1, 0, none⟩) (by dsimp only; omega) (.bool b5)).setCell (p := ⟨w.heap.size + 1, 1, none⟩) (by dsimp only; omega) (.slice A5 n5 c5)), by simp [World.setCell]; omega⟩
  case rest =>
    clear h h'
    obtain ⟨rfl, b8, A8, n8, c8, b9, A9, n9, c9, y0, y1, y2, h8, h9, bwc, lwc⟩ := hcut
    clear x1_0 x1_1 x1_2
    obtain ⟨cy0_0, cy0_1⟩ := y0.c2
    obtain ⟨ly0_0, ly0_1, ly0_2, ly0_3⟩ := lts0 y0.lt
    obtain ⟨cy1_0, cy1_1⟩ := y1.c2
    obtain ⟨ly1_0, ly1_1, ly1_2, ly1_3⟩ := lts1 y1.lt
    go_wp2_with fail
    (with_reducible refine (i_gcd _ b8 A8 n8 c8 (-z) (k) ?_ b9 A9 n9 c9 (-z') (k') ?_ ?_).mono ?_); (exact h8.iz); (exact h9.iz); (first | omega | decide | assumption); rintro e w13 ⟨b13, A13, n13, c13, rfl, h13, hb13⟩
    clear cy0_0 cy0_1 ly0_0 ly0_1 ly0_2 ly0_3 cy1_0 cy1_1 ly1_0 ly1_1 ly1_2 ly1_3
    have q13 : Below wc.heap.size wc w13 := hb13
    replace h8 := h8.belw q13
    replace h9 := h9.belw q13
    replace y0 := y0.below q13 y0.lt
    replace y1 := y1.below q13 y1.lt
    replace y2 := y2.below q13 y2.lt
    have bw13 : Below w.heap.size w w13 := bwc.trans (q13.mono bwc.size)
    have lw13 : wc.heap.size ≤ w13.heap.size := q13.size
    clear hb13 q13
    obtain ⟨cy0_0, cy0_1⟩ := y0.c2
    obtain ⟨ly0_0, ly0_1, ly0_2, ly0_3⟩ := lts0 y0.lt
    go_wp2_with fail
    (with_reducible refine (i_sign_e _ b8 A8 n8 c8 (-z) (k) ?_ (1) ?_ ?_).mono ?_); (exact (h8.belw ((Below.refl _ _).alloc (Nat.le_refl _) _)).iz); (exact HN.out); (omega); rintro e w14 ⟨rfl, hb14⟩
    clear cy0_0 cy0_1 ly0_0 ly0_1 ly0_2 ly0_3
    have q14 : Below w13.heap.size w13 w14 := ((Below.refl _ _).alloc (Nat.le_refl _) _).trans (hb14.mono (by simp))
    replace h8 := h8.belw q14
    replace h9 := h9.belw q14
    replace h13 := h13.belw q14
    replace y0 := y0.below q14 y0.lt
    replace y1 := y1.below q14 y1.lt
    replace y2 := y2.below q14 y2.lt
    have x14_0 : Blk w14 (w13.heap.size) 48 #[.bool b13, .slice A13 n13 c13] := (blkAt _ _ _ (by simp)).below hb14 (by simp)
    have bw14 : Below w.heap.size w w14 := bw13.trans (q14.mono bw13.size)
    have lw14 : w13.heap.size + 1 ≤ w14.heap.size := by have := hb14.size; simp at this; omega
    clear hb14 q14 bw13
    obtain ⟨cy0_0, cy0_1⟩ := y0.c2
    obtain ⟨ly0_0, ly0_1, ly0_2, ly0_3⟩ := lts0 y0.lt
    obtain ⟨cx14_0_0, cx14_0_1⟩ := x14_0.c2
    obtain ⟨lx14_0_0, lx14_0_1, lx14_0_2, lx14_0_3⟩ := lts0 x14_0.lt
    go_wp2_with fail
    (with_reducible refine (i_div _ b8 A8 n8 c8 (-z) (k) ?_ b13 A13 n13 c13 ((Nat.gcd ((-z)).natAbs ((-z')).natAbs : Nat)) ((k) + (k')) ?_  ?_ ?_).mono ?_); (exact h8.iz); (exact h13.iz); (omega); (exact HG.out); rintro e w15 ⟨b15, A15, n15, c15, b'15, A'15, n'15, c'15, rfl, h15, h'15, hb15⟩
    clear cy0_0 cy0_1 ly0_0 ly0_1 ly0_2 ly0_3 cx14_0_0 cx14_0_1 lx14_0_0 lx14_0_1 lx14_0_2 lx14_0_3
    have q15 : Below w14.heap.size w14 w15 := hb15
    replace h8 := h8.belw q15
    replace h9 := h9.belw q15
    replace h13 := h13.belw q15
    replace y0 := y0.below q15 y0.lt
    replace y1 := y1.below q15 y1.lt
    replace y2 := y2.below q15 y2.lt
    replace x14_0 := x14_0.below q15 x14_0.lt
    have bw15 : Below w.heap.size w w15 := bw14.trans (q15.mono bw14.size)
    have lw15 : w14.heap.size ≤ w15.heap.size := q15.size
    clear hb15 q15 bw14
    obtain ⟨cy0_0, cy0_1⟩ := y0.c2
    obtain ⟨fy0_0, fy0_1⟩ := y0.f2
    obtain ⟨ly0_0, ly0_1, ly0_2, ly0_3⟩ := lts0 y0.lt
    obtain ⟨cy1_0, cy1_1⟩ := y1.c2
    obtain ⟨ly1_0, ly1_1, ly1_2, ly1_3⟩ := lts1 y1.lt
    obtain ⟨cx14_0_0, cx14_0_1⟩ := x14_0.c2
    obtain ⟨lx14_0_0, lx14_0_1, lx14_0_2, lx14_0_3⟩ := lts0 x14_0.lt
    go_wp2_with fail
    clear cy0_0 fy0_0 cy0_1 fy0_1 ly0_0 ly0_1 ly0_2 ly0_3 cy1_0 cy1_1 ly1_0 ly1_1 ly1_2 ly1_3 cx14_0_0 cx14_0_1 lx14_0_0 lx14_0_1 lx14_0_2 lx14_0_3
    have p16 : Kp w15 ((w15.setCell ⟨w.heap.size, 0, none⟩ (.bool b15)).setCell ⟨w.heap.size, 1, none⟩ (.slice A15 n15 c15)) := (((Kp.refl w15).setB (p := ⟨w.heap.size, 0, none⟩) y0.box (by decide) (.bool b15)).setB (p := ⟨w.heap.size, 1, none⟩) (y0.box.set ⟨w.heap.size, 0, none⟩ (.bool b15)) (by decide) (.slice A15 n15 c15))
    have bw16 : Below w.heap.size w ((w15.setCell ⟨w.heap.size, 0, none⟩ (.bool b15)).setCell ⟨w.heap.size, 1, none⟩ (.slice A15 n15 c15)) := ((bw15.setCell (p := ⟨w.heap.size, 0, none⟩) (by dsimp only; omega) (.bool b15)).setCell (p := ⟨w.heap.size, 1, none⟩) (by dsimp only; omega) (.slice A15 n15 c15))
    replace y0 : Blk ((w15.setCell ⟨w.heap.size, 0, none⟩ (.bool b15)).setCell ⟨w.heap.size, 1, none⟩ (.slice A15 n15 c15)) (w.heap.size) 48 #[.bool b15, .slice A15 n15 c15] := ((y0.set_at 0 (.bool b15) #[.bool b15, .slice A8 n8 c8] (by simp)).set_at 1 (.slice A15 n15 c15) #[.bool b15, .slice A15 n15 c15] (by simp))
    replace y1 : Blk ((w15.setCell ⟨w.heap.size, 0, none⟩ (.bool b15)).setCell ⟨w.heap.size, 1, none⟩ (.slice A15 n15 c15)) (w.heap.size + 1) 48 #[.bool b9, .slice A9 n9 c9] := ((y1.far (p := ⟨w.heap.size, 0, none⟩) (by dsimp only; omega) (.bool b15)).far (p := ⟨w.heap.size, 1, none⟩) (by dsimp only; omega) (.slice A15 n15 c15))
    replace y2 : Blk ((w15.setCell ⟨w.heap.size, 0, none⟩ (.bool b15)).setCell ⟨w.heap.size, 1, none⟩ (.slice A15 n15 c15)) (w.heap.size + 1 + 1) 24 #[.bool false, .slice none 0 0, .slice none 0 0] := ((y2.far (p := ⟨w.heap.size, 0, none⟩) (by dsimp only; omega) (.bool b15)).far (p := ⟨w.heap.size, 1, none⟩) (by dsimp only; omega) (.slice A15 n15 c15))
    replace x14_0 : Blk ((w15.setCell ⟨w.heap.size, 0, none⟩ (.bool b15)).setCell ⟨w.heap.size, 1, none⟩ (.slice A15 n15 c15)) (w13.heap.size) 48 #[.bool b13, .slice A13 n13 c13] := ((x14_0.far (p := ⟨w.heap.size, 0, none⟩) (by dsimp only; omega) (.bool b15)).far (p := ⟨w.heap.size, 1, none⟩) (by dsimp only; omega) (.slice A15 n15 c15))
    have lw16 : w15.heap.size + 0 ≤ ((w15.setCell ⟨w.heap.size, 0, none⟩ (.bool b15)).setCell ⟨w.heap.size, 1, none⟩ (.slice A15 n15 c15)).heap.size := by simp
    generalize hE16 : ((w15.setCell ⟨w.heap.size, 0, none⟩ (.bool b15)).setCell ⟨w.heap.size, 1, none⟩ (.slice A15 n15 c15)) = w16 at p16 bw16 lw16 y0 y1 y2 x14_0 ⊢
    clear hE16
    replace h8 := h8.keep p16
    replace h9 := h9.keep p16
    replace h13 := h13.keep p16
    replace h15 := h15.keep p16
    replace h'15 := h'15.keep p16
    clear bw15
    (with_reducible refine (i_div _ b9 A9 n9 c9 (-z') (k') ?_ b13 A13 n13 c13 ((Nat.gcd ((-z)).natAbs ((-z')).natAbs : Nat)) ((k) + (k')) ?_  ?_ ?_).mono ?_); (exact h9.iz); (exact h13.iz); (omega); (exact HG.out); rintro e w17 ⟨b17, A17, n17, c17, b'17, A'17, n'17, c'17, rfl, h17, h'17, hb17⟩
    have q17 : Below w16.heap.size w16 w17 := hb17
    replace h8 := h8.belw q17
    replace h9 := h9.belw q17
    replace h13 := h13.belw q17
    replace h15 := h15.belw q17
    replace h'15 := h'15.belw q17
    replace y0 := y0.below q17 y0.lt
    replace y1 := y1.below q17 y1.lt
    replace y2 := y2.below q17 y2.lt
    replace x14_0 := x14_0.below q17 x14_0.lt
    have bw17 : Below w.heap.size w w17 := bw16.trans (q17.mono bw16.size)
    have lw17 : w16.heap.size ≤ w17.heap.size := q17.size
    clear hb17 q17 bw16
    obtain ⟨cy0_0, cy0_1⟩ := y0.c2
    obtain ⟨ly0_0, ly0_1, ly0_2, ly0_3⟩ := lts0 y0.lt
    obtain ⟨cy1_0, cy1_1⟩ := y1.c2
    obtain ⟨fy1_0, fy1_1⟩ := y1.f2
    obtain ⟨ly1_0, ly1_1, ly1_2, ly1_3⟩ := lts1 y1.lt
    obtain ⟨cy2_0, cy2_1, cy2_2⟩ := y2.c3
    obtain ⟨fy2_0, fy2_1, fy2_2⟩ := y2.f3
    obtain ⟨ly2_0, ly2_1, ly2_2, ly2_3⟩ := lts2 y2.lt
    go_wp2_with fail
    refine bodyPost_ret (v := .agg #[.bool false, .slice A15 n15 c15, .slice A17 n17 c17]) (by simp [results, Tryz.results125, go_sem, *] <;> first | rfl | exact ⟨rfl, rfl⟩) rfl ?_
    obtain ⟨e1, e2, e3⟩ := form_pos HN.out HP.out HQ.out
    exact ⟨_, _, _, _, _, _, _, rfl, QV.mk_ (by rw [e1]; exact h15.2.1.keep ((((((Kp.refl w17).setB (p := ⟨w.heap.size + 1, 0, none⟩) y1.box (by decide) (.bool b17)).setB (p := ⟨w.heap.size + 1, 1, none⟩) (y1.box.set ⟨w.heap.size + 1, 0, none⟩ (.bool b17)) (by decide) (.slice A17 n17 c17)).setB (p := ⟨w.heap.size + 1 + 1, 0, none⟩) ((y2.box.set ⟨w.heap.size + 1, 0, none⟩ (.bool b17)).set ⟨w.heap.size + 1, 1, none⟩ (.slice A17 n17 c17)) (by decide) (.bool false)).setB (p := ⟨w.heap.size + 1 + 1, 1, none⟩) (((y2.box.set ⟨w.heap.size + 1, 0, none⟩ (.bool b17)).set ⟨w.heap.size + 1, 1, none⟩ (.slice A17 n17 c17)).set ⟨w.heap.size + 1 + 1, 0, none⟩ (.bool false)) (by decide) (.slice A15 n15 c15)).setB (p := ⟨w.heap.size + 1 + 1, 2, none⟩) ((((y2.box.set ⟨w.heap.size + 1, 0, none⟩ (.bool b17)).set ⟨w.heap.size + 1, 1, none⟩ (.slice A17 n17 c17)).set ⟨w.heap.size + 1 + 1, 0, none⟩ (.bool false)).set ⟨w.heap.size + 1 + 1, 1, none⟩ (.slice A15 n15 c15)) (by decide) (.slice A17 n17 c17))) (by rw [e2]; exact h17.2.1.keep ((((((Kp.refl w17).setB (p := ⟨w.heap.size + 1, 0, none⟩) y1.box (by decide) (.bool b17)).setB (p := ⟨w.heap.size + 1, 1, none⟩) (y1.box.set ⟨w.heap.size + 1, 0, none⟩ (.bool b17)) (by decide) (.slice A17 n17 c17)).setB (p := ⟨w.heap.size + 1 + 1, 0, none⟩) ((y2.box.set ⟨w.heap.size + 1, 0, none⟩ (.bool b17)).set ⟨w.heap.size + 1, 1, none⟩ (.slice A17 n17 c17)) (by decide) (.bool false)).setB (p := ⟨w.heap.size + 1 + 1, 1, none⟩) (((y2.box.set ⟨w.heap.size + 1, 0, none⟩ (.bool b17)).set ⟨w.heap.size + 1, 1, none⟩ (.slice A17 n17 c17)).set ⟨w.heap.size + 1 + 1, 0, none⟩ (.bool false)) (by decide) (.slice A15 n15 c15)).setB (p := ⟨w.heap.size + 1 + 1, 2, none⟩) ((((y2.box.set ⟨w.heap.size + 1, 0, none⟩ (.bool b17)).set ⟨w.heap.size + 1, 1, none⟩ (.slice A17 n17 c17)).set ⟨w.heap.size + 1 + 1, 0, none⟩ (.bool false)).set ⟨w.heap.size + 1 + 1, 1, none⟩ (.slice A15 n15 c15)) (by decide) (.slice A17 n17 c17))) e3 HS.out, (((((bw17.setCell (p := ⟨w.heap.size + 1, 0, none⟩) (by dsimp only; omega) (.bool b17)).setCell (p := ⟨w.heap.size + 1, 1, none⟩) (by dsimp only; omega) (.slice A17 n17 c17)).setCell (p := ⟨w.heap.size + 1 + 1, 0, none⟩) (by dsimp only; omega) (.bool false)).setCell (p := ⟨w.heap.size + 1 + 1, 1, none⟩) (by dsimp only; omega) (.slice A15 n15 c15)).setCell (p := ⟨w.heap.size + 1 + 1, 2, none⟩) (by dsimp only; omega) (.slice A17 n17 c17))⟩
theorem f_form (w : World) (b : Bool) (A : Option Addr) (n c : Nat) (z : Int) (k : Nat) (h : IZ w b A n c z k) (b' : Bool) (A' : Option Addr) (n' c' : Nat) (z' : Int) (k' : Nat) (h' : IZ w b' A' n' c' z' k') (q : Rat) (K : Nat) (hd : z' ≠ 0) (hq : Rat.divInt z z' = q) (hs : Sz q K) (hk : k + k' ≤ 300000000) :
    Calls Tryz.prog 125 #[.agg #[.bool b, .slice A n c], .agg #[.bool b', .slice A' n' c']] w (RetF w q K) := by
  rcases sign3 z with s | s | s
  · rw [← hq, s, Rat.zero_divInt]; exact f_form_0 w b A n c z k h b' A' n' c' z' k' h' K s hk
  · rcases sign3 z' with t | t | t
    · exact absurd t hd
    · exact f_form_pp w b A n c z k h b' A' n' c' z' k' h' q K s t hq hs hk
    · exact f_form_np w b A n c z k h b' A' n' c' z' k' h' q K s t hq hs hk
  · rcases sign3 z' with t | t | t
    · exact absurd t hd
    · exact f_form_pn w b A n c z k h b' A' n' c' z' k' h' q K s t hq hs hk
    · exact f_form_nn w b A n c z k h b' A' n' c' z' k' h' q K s t hq hs hk
end Go.Proofs.YtpnnfbodphflpaaGreatDoor

/- Walks: fractions: what is valid, the parts. -/
namespace Go.Proofs.YtpnnfbodphflpaaGreatDoor
open Go Go.RowKit Bn
attribute [local go_sem ↓] Go.wp_at_zero Go.wp_at_succ

section
variable {w : World} {b : Bool} {A : Option Addr} {n c : Nat} {D : Option Addr} {m e : Nat} {a : RD} {k : Nat} (h : QD w b A n c D m e a k)
include h
theorem ok_00 (h1 : n = 0) (h2 : m = 0) : a.ok = !b := by
  have e1 : a.num = [] := List.eq_nil_of_length_eq_zero (by rw [← h.2.1.2.1, h1])
  have e2 : a.den = [] := List.eq_nil_of_length_eq_zero (by rw [← h.2.2.1.2.1, h2])
  unfold RD.ok
  rw [if_pos ⟨e1, e2⟩, h.1]
theorem QD.num_ne (h1 : 0 < n) : a.num ≠ [] := by intro e; have := h.2.1.2.1; rw [e] at this; simp at this; omega
theorem QD.den_ne_ (h1 : 0 < m) : a.den ≠ [] := by intro e; have := h.2.2.1.2.1; rw [e] at this; simp at this; omega
theorem ok_01 (h1 : n = 0) (h2 : 0 < m) : a.ok = false := by
  have e1 : a.num = [] := List.eq_nil_of_length_eq_zero (by rw [← h.2.1.2.1, h1])
  unfold RD.ok
  rw [if_neg (by intro x; exact h.den_ne_ h2 x.2)]; simp [e1]
theorem ok_02 (h1 : 0 < n) (h2 : m = 0) : a.ok = false := by
  have e2 : a.den = [] := List.eq_nil_of_length_eq_zero (by rw [← h.2.2.1.2.1, h2])
  unfold RD.ok
  rw [if_neg (by intro x; exact h.num_ne h1 x.1)]; simp [e2]
omit h in
theorem wdok_ {l : List Nat} (hl : l ≠ []) : WD.ok ⟨false, l⟩ = last0 l := by unfold WD.ok last0; simp [hl]
theorem ok_pos (h1 : 0 < n) (h2 : 0 < m) : a.ok = (WD.ok ⟨false, a.num⟩ && WD.ok ⟨false, a.den⟩ && Nat.gcd (val a.num) (val a.den) == 1) := by
  have e1 := h.num_ne h1
  have e2 := h.den_ne_ h2
  unfold RD.ok
  have f1 : (a.num != []) = true := bne_iff_ne.2 e1
  have f2 : (a.den != []) = true := bne_iff_ne.2 e2
  rw [if_neg (by intro x; exact e1 x.1), wdok_ e1, wdok_ e2, f1, f2]
  rfl
theorem ok_3 (h1 : 0 < n) (h2 : 0 < m) (h3 : WD.ok ⟨false, a.num⟩ = false) : a.ok = false := by rw [ok_pos h h1 h2, h3]; rfl
theorem ok_4 (h1 : 0 < n) (h2 : 0 < m) (h3 : WD.ok ⟨false, a.num⟩ = true) (h4 : WD.ok ⟨false, a.den⟩ = false) : a.ok = false := by rw [ok_pos h h1 h2, h3, h4]; rfl
theorem ok_5 (h1 : 0 < n) (h2 : 0 < m) (h3 : WD.ok ⟨false, a.num⟩ = true) (h4 : WD.ok ⟨false, a.den⟩ = true) : a.ok = (Nat.gcd (val a.num) (val a.den) == 1) := by rw [ok_pos h h1 h2, h3, h4]; rfl
theorem QD.num_z (hk : WD.ok ⟨false, a.num⟩ = true) : IZ w false A n c (val a.num : Int) k := ⟨_, h.2.1, by simp [WD.z, hk], h.2.2.2.1⟩
theorem QD.den_z (hk : WD.ok ⟨false, a.den⟩ = true) : IZ w false D m e (val a.den : Int) k := ⟨_, h.2.2.1, by simp [WD.z, hk], h.2.2.2.2⟩
end
theorem ok_last {x y : Nat} {s : Int} {r : Bool} (hc : cmpI ((Nat.gcd ((x : Int)).natAbs ((y : Int)).natAbs : Nat)) 1 = s) (hr : r = (Nat.gcd x y == 1)) : (s == 0) = r := by
  subst hc hr
  simp only [Int.natAbs_natCast]
  generalize Nat.gcd x y = g
  unfold cmpI
  by_cases h1 : g = 1
  · subst h1; rfl
  · by_cases h2 : g < 1
    · have : g = 0 := by omega
      subst this; rfl
    · have h3 : ¬ ((g : Int) < 1) := by omega
      have h4 : ¬ ((g : Int) = 1) := by omega
      simp [h1, h3, h4]
theorem i_valid_e (w : World) (b : Bool) (A : Option Addr) (n c : Nat) (v : Bool) (l : List Nat) (h : Wd w A n c l) (hv : WD.ok ⟨b, l⟩ = v) (hn : n ≤ 1000000000) :
    Calls Tryz.prog 31 #[.agg #[.bool b, .slice A n c]] w (RetV w (.bool v)) := by subst hv; exact valid_c w b A n c l h (by omega)
theorem i_cmp_e (w : World) (b : Bool) (A : Option Addr) (n c : Nat) (z : Int) (k : Nat) (h : IZ w b A n c z k) (b' : Bool) (A' : Option Addr) (n' c' : Nat) (z' : Int) (k' : Nat) (h' : IZ w b' A' n' c' z' k') (s : Int) (hs : cmpI z z' = s) (hk : k + k' ≤ 1000000000) :
    Calls Tryz.prog 30 #[.agg #[.bool b, .slice A n c], .agg #[.bool b', .slice A' n' c']] w (RetV w (.int .i64 s)) := by subst hs; exact i_cmp w b A n c z k h b' A' n' c' z' k' h' hk
set_option maxHeartbeats 2000000 in
/-- fraction.one -/
theorem f_one (w : World)  :
    Calls Tryz.prog 88 #[] w (RetI w 1 1) := by
  go_enter Tryz.func88, Tryz.ntmps88
  go_wp2_with fail
  (with_reducible refine (i_of1 _ (1) ?_ ?_).mono ?_); (first | omega | decide | assumption); (first | omega | decide | assumption); rintro e w1 ⟨b1, A1, n1, c1, rfl, h1, hb1⟩
  have q1 : Below w.heap.size w w1 := ((Below.refl _ _).alloc (Nat.le_refl _) _).trans (hb1.mono (by simp))
  have x1_0 : Blk w1 (w.heap.size) 48 #[.bool false, .slice none 0 0] := (blkAt _ _ _ (by simp)).below hb1 (by simp)
  have bw1 : Below w.heap.size w w1 := (brefl w).trans (q1.mono (brefl w).size)
  have lw1 : w.heap.size + 1 ≤ w1.heap.size := by have := hb1.size; simp at this; omega
  clear hb1 q1
  obtain ⟨cx1_0_0, cx1_0_1⟩ := x1_0.c2
  obtain ⟨fx1_0_0, fx1_0_1⟩ := x1_0.f2
  obtain ⟨lx1_0_0, lx1_0_1, lx1_0_2, lx1_0_3⟩ := lts0 x1_0.lt
  go_wp2_with fail
  refine bodyPost_ret (v := .agg #[.bool b1, .slice A1 n1 c1]) (by simp [results, Tryz.results88, go_sem, *] <;> first | rfl | exact ⟨rfl, rfl⟩) rfl ?_
  exact ⟨b1, A1, n1, c1, rfl, h1.keep (((Kp.refl w1).setB (p := ⟨w.heap.size, 0, none⟩) x1_0.box (by decide) (.bool b1)).setB (p := ⟨w.heap.size, 1, none⟩) (x1_0.box.set ⟨w.heap.size, 0, none⟩ (.bool b1)) (by decide) (.slice A1 n1 c1)), ((bw1.setCell (p := ⟨w.heap.size, 0, none⟩) (by dsimp only; omega) (.bool b1)).setCell (p := ⟨w.heap.size, 1, none⟩) (by dsimp only; omega) (.slice A1 n1 c1))⟩
set_option maxHeartbeats 1000000 in
/-- fraction.Valid -/
theorem f_valid_0 (w : World) (b : Bool) (A : Option Addr) (n c : Nat) (D : Option Addr) (m e : Nat) (a : RD) (k : Nat) (h : QD w b A n c D m e a k) (hk : k ≤ 300000000) (h1 : n = 0) (h2 : m = 0) :
    Calls Tryz.prog 39 #[.agg #[.bool b, .slice A n c, .slice D m e]] w (RetV w (.bool a.ok)) := by
  have HR := Lib.hid (show a.ok = !b from ok_00 h h1 h2)
  have HK := Lib.hid hk
  subst h1 h2
  clear h hk
  go_enter Tryz.func39, Tryz.ntmps39
  go_wp2
  go_ret
  exact retB (by rw [HR.out]) ((Below.refl _ _).alloc (Nat.le_refl _) _)
set_option maxHeartbeats 1000000 in
/-- fraction.Valid -/
theorem f_valid_1 (w : World) (b : Bool) (A : Option Addr) (n c : Nat) (D : Option Addr) (m e : Nat) (a : RD) (k : Nat) (h : QD w b A n c D m e a k) (hk : k ≤ 300000000) (h1 : n = 0) (h2 : 0 < m) :
    Calls Tryz.prog 39 #[.agg #[.bool b, .slice A n c, .slice D m e]] w (RetV w (.bool a.ok)) := by
  have HR := Lib.hid (show a.ok = false from ok_01 h h1 h2)
  have HK := Lib.hid hk
  have e1 : ((n : Int) == 0) = true := by simp [h1]
  have e2 : ((m : Int) == 0) = false := by simp; omega
  clear h1 h2 hk
  go_enter Tryz.func39, Tryz.ntmps39
  go_wp2_with fail
  have p1 : Kp w (w.alloc (.cells #[.bool b, .slice A n c, .slice D m e] 24)) := ((Kp.refl w).alloc (.cells #[.bool b, .slice A n c, .slice D m e] 24))
  have bw1 : Below w.heap.size w (w.alloc (.cells #[.bool b, .slice A n c, .slice D m e] 24)) := ((brefl w).alloc (by first | omega | (simp <;> omega)) (.cells #[.bool b, .slice A n c, .slice D m e] 24))
  have x1_0 : Blk (w.alloc (.cells #[.bool b, .slice A n c, .slice D m e] 24)) (w.heap.size) 24 #[.bool b, .slice A n c, .slice D m e] := (blkAt _ _ _ (by simp))
  have lw1 : w.heap.size + 1 ≤ (w.alloc (.cells #[.bool b, .slice A n c, .slice D m e] 24)).heap.size := by simp
  generalize hE1 : (w.alloc (.cells #[.bool b, .slice A n c, .slice D m e] 24)) = w1 at p1 bw1 lw1 x1_0 ⊢
  clear hE1
  replace h := h.keep p1
  obtain ⟨cx1_0_0, cx1_0_1, cx1_0_2⟩ := x1_0.c3
  obtain ⟨lx1_0_0, lx1_0_1, lx1_0_2, lx1_0_3⟩ := lts0 x1_0.lt
  go_cut [3, 4] (fun s3 s4 wx => ∃ g3 g4, s3 = .pointer (some ⟨g3, 0, none⟩) ∧ s4 = .pointer (some ⟨g4, 0, none⟩) ∧ Blk wx g3 48 #[.bool false, .slice A n c] ∧ Blk wx g4 48 #[.bool false, .slice D m e] ∧ Blk wx (w.heap.size) 24 #[.bool b, .slice A n c, .slice D m e] ∧ Below w1.heap.size w1 wx)
  case first =>
    go_region_held3 (fun w' => Sees w1.heap.size w1 w') (first | exact Sees.of (Nat.le_refl _) (below_drewN (brefl _) 1) | exact Sees.of (Nat.le_refl _) ((below_drewN (brefl _) 1).alloc (Nat.le_refl _) _) | exact Sees.of (Nat.le_refl _) (((below_drewN (brefl _) 1).alloc (Nat.le_refl _) _).alloc (by simp) _) | exact Sees.of (Nat.le_refl _) ((((below_drewN (brefl _) 1).alloc (Nat.le_refl _) _).alloc (by simp) _).setCell (by simp) _)) (fail)
    all_goals
      go_wp2_with fail
      go_meet
      first
        | exact ⟨_, _, rfl, rfl, ((blkAt _ _ _ rfl).alloc _).drew, (blkAt _ _ _ (by simp)).drew, ((x1_0.alloc _).alloc _).drew, ((((Below.refl _ _).alloc (Nat.le_refl _) _).alloc (by simp) _).drew)⟩
        | exact ⟨_, _, rfl, rfl, (blkAt _ _ _ (by simp)).drew, ((blkAt _ _ _ rfl).alloc _).drew, ((x1_0.alloc _).alloc _).drew, ((((Below.refl _ _).alloc (Nat.le_refl _) _).alloc (by simp) _).drew)⟩
  case rest =>
    clear cx1_0_0 cx1_0_1 cx1_0_2 lx1_0_0 lx1_0_1 lx1_0_2 lx1_0_3
    obtain ⟨g3, g4, rfl, rfl, y3, y4, y1, q1⟩ := hcut
    replace h := h.belw q1
    have bwc : Below w.heap.size w wc := bw1.trans (q1.mono bw1.size)
    clear x1_0 bw1
    have cy1_0 : wc.cell? ⟨w.heap.size, 0, none⟩ = some (.bool b) := y1.cell 0
    have cy1_1 : wc.cell? ⟨w.heap.size, 1, none⟩ = some (.slice A n c) := y1.cell 1
    have cy1_2 : wc.cell? ⟨w.heap.size, 2, none⟩ = some (.slice D m e) := y1.cell 2
    obtain ⟨ly1_0, ly1_1, ly1_2, ly1_3⟩ := lts0 y1.lt
    go_wp2
    go_ret
    exact retB HR.out.symm bwc
set_option maxHeartbeats 1000000 in
/-- fraction.Valid -/
theorem f_valid_2 (w : World) (b : Bool) (A : Option Addr) (n c : Nat) (D : Option Addr) (m e : Nat) (a : RD) (k : Nat) (h : QD w b A n c D m e a k) (hk : k ≤ 300000000) (h1 : 0 < n) (h2 : m = 0) :
    Calls Tryz.prog 39 #[.agg #[.bool b, .slice A n c, .slice D m e]] w (RetV w (.bool a.ok)) := by
  have HR := Lib.hid (show a.ok = false from ok_02 h h1 h2)
  have HK := Lib.hid hk
  have e1 : ((n : Int) == 0) = false := by simp; omega
  have e2 : ((m : Int) == 0) = true := by simp [h2]
  clear h1 h2 hk
  go_enter Tryz.func39, Tryz.ntmps39
  go_wp2_with fail
  have p1 : Kp w (w.alloc (.cells #[.bool b, .slice A n c, .slice D m e] 24)) := ((Kp.refl w).alloc (.cells #[.bool b, .slice A n c, .slice D m e] 24))
  have bw1 : Below w.heap.size w (w.alloc (.cells #[.bool b, .slice A n c, .slice D m e] 24)) := ((brefl w).alloc (by first | omega | (simp <;> omega)) (.cells #[.bool b, .slice A n c, .slice D m e] 24))
  have x1_0 : Blk (w.alloc (.cells #[.bool b, .slice A n c, .slice D m e] 24)) (w.heap.size) 24 #[.bool b, .slice A n c, .slice D m e] := (blkAt _ _ _ (by simp))
  have lw1 : w.heap.size + 1 ≤ (w.alloc (.cells #[.bool b, .slice A n c, .slice D m e] 24)).heap.size := by simp
  generalize hE1 : (w.alloc (.cells #[.bool b, .slice A n c, .slice D m e] 24)) = w1 at p1 bw1 lw1 x1_0 ⊢
  clear hE1
  replace h := h.keep p1
  obtain ⟨cx1_0_0, cx1_0_1, cx1_0_2⟩ := x1_0.c3
  obtain ⟨lx1_0_0, lx1_0_1, lx1_0_2, lx1_0_3⟩ := lts0 x1_0.lt
  go_cut [3, 4] (fun s3 s4 wx => ∃ g3 g4, s3 = .pointer (some ⟨g3, 0, none⟩) ∧ s4 = .pointer (some ⟨g4, 0, none⟩) ∧ Blk wx g3 48 #[.bool false, .slice A n c] ∧ Blk wx g4 48 #[.bool false, .slice D m e] ∧ Blk wx (w.heap.size) 24 #[.bool b, .slice A n c, .slice D m e] ∧ Below w1.heap.size w1 wx)
  case first =>
    go_region_held3 (fun w' => Sees w1.heap.size w1 w') (first | exact Sees.of (Nat.le_refl _) (below_drewN (brefl _) 1) | exact Sees.of (Nat.le_refl _) ((below_drewN (brefl _) 1).alloc (Nat.le_refl _) _) | exact Sees.of (Nat.le_refl _) (((below_drewN (brefl _) 1).alloc (Nat.le_refl _) _).alloc (by simp) _) | exact Sees.of (Nat.le_refl _) ((((below_drewN (brefl _) 1).alloc (Nat.le_refl _) _).alloc (by simp) _).setCell (by simp) _)) (fail)
    all_goals
      go_wp2_with fail
      go_meet
      first
        | exact ⟨_, _, rfl, rfl, ((blkAt _ _ _ rfl).alloc _).drew, (blkAt _ _ _ (by simp)).drew, ((x1_0.alloc _).alloc _).drew, ((((Below.refl _ _).alloc (Nat.le_refl _) _).alloc (by simp) _).drew)⟩
        | exact ⟨_, _, rfl, rfl, (blkAt _ _ _ (by simp)).drew, ((blkAt _ _ _ rfl).alloc _).drew, ((x1_0.alloc _).alloc _).drew, ((((Below.refl _ _).alloc (Nat.le_refl _) _).alloc (by simp) _).drew)⟩
  case rest =>
    clear cx1_0_0 cx1_0_1 cx1_0_2 lx1_0_0 lx1_0_1 lx1_0_2 lx1_0_3
    obtain ⟨g3, g4, rfl, rfl, y3, y4, y1, q1⟩ := hcut
    replace h := h.belw q1
    have bwc : Below w.heap.size w wc := bw1.trans (q1.mono bw1.size)
    clear x1_0 bw1
    have cy1_0 : wc.cell? ⟨w.heap.size, 0, none⟩ = some (.bool b) := y1.cell 0
    have cy1_1 : wc.cell? ⟨w.heap.size, 1, none⟩ = some (.slice A n c) := y1.cell 1
    have cy1_2 : wc.cell? ⟨w.heap.size, 2, none⟩ = some (.slice D m e) := y1.cell 2
    obtain ⟨ly1_0, ly1_1, ly1_2, ly1_3⟩ := lts0 y1.lt
    go_wp2
    go_ret
    exact retB HR.out.symm bwc
set_option maxHeartbeats 1000000 in
/-- fraction.Valid -/
theorem f_valid_3 (w : World) (b : Bool) (A : Option Addr) (n c : Nat) (D : Option Addr) (m e : Nat) (a : RD) (k : Nat) (h : QD w b A n c D m e a k) (hk : k ≤ 300000000) (h1 : 0 < n) (h2 : 0 < m) (h3 : WD.ok ⟨false, a.num⟩ = false) :
    Calls Tryz.prog 39 #[.agg #[.bool b, .slice A n c, .slice D m e]] w (RetV w (.bool a.ok)) := by
  have HR := Lib.hid (ok_3 h h1 h2 h3)
  have HK := Lib.hid hk
  have H3 := Lib.hid h3
  have e1 : ((n : Int) == 0) = false := by simp; omega
  have e2 : ((m : Int) == 0) = false := by simp; omega
  clear h1 h2 hk h3
  go_enter Tryz.func39, Tryz.ntmps39
  go_wp2_with fail
  have p1 : Kp w (w.alloc (.cells #[.bool b, .slice A n c, .slice D m e] 24)) := ((Kp.refl w).alloc (.cells #[.bool b, .slice A n c, .slice D m e] 24))
  have bw1 : Below w.heap.size w (w.alloc (.cells #[.bool b, .slice A n c, .slice D m e] 24)) := ((brefl w).alloc (by first | omega | (simp <;> omega)) (.cells #[.bool b, .slice A n c, .slice D m e] 24))
  have x1_0 : Blk (w.alloc (.cells #[.bool b, .slice A n c, .slice D m e] 24)) (w.heap.size) 24 #[.bool b, .slice A n c, .slice D m e] := (blkAt _ _ _ (by simp))
  have lw1 : w.heap.size + 1 ≤ (w.alloc (.cells #[.bool b, .slice A n c, .slice D m e] 24)).heap.size := by simp
  generalize hE1 : (w.alloc (.cells #[.bool b, .slice A n c, .slice D m e] 24)) = w1 at p1 bw1 lw1 x1_0 ⊢
  clear hE1
  replace h := h.keep p1
  obtain ⟨cx1_0_0, cx1_0_1, cx1_0_2⟩ := x1_0.c3
  obtain ⟨lx1_0_0, lx1_0_1, lx1_0_2, lx1_0_3⟩ := lts0 x1_0.lt
  go_cut [3, 4] (fun s3 s4 wx => ∃ g3 g4, s3 = .pointer (some ⟨g3, 0, none⟩) ∧ s4 = .pointer (some ⟨g4, 0, none⟩) ∧ Blk wx g3 48 #[.bool false, .slice A n c] ∧ Blk wx g4 48 #[.bool false, .slice D m e] ∧ Blk wx (w.heap.size) 24 #[.bool b, .slice A n c, .slice D m e] ∧ Below w1.heap.size w1 wx)
  case first =>
    go_region_held3 (fun w' => Sees w1.heap.size w1 w') (first | exact Sees.of (Nat.le_refl _) (below_drewN (brefl _) 1) | exact Sees.of (Nat.le_refl _) ((below_drewN (brefl _) 1).alloc (Nat.le_refl _) _) | exact Sees.of (Nat.le_refl _) (((below_drewN (brefl _) 1).alloc (Nat.le_refl _) _).alloc (by simp) _) | exact Sees.of (Nat.le_refl _) ((((below_drewN (brefl _) 1).alloc (Nat.le_refl _) _).alloc (by simp) _).setCell (by simp) _)) (fail)
    all_goals
      go_wp2_with fail
      go_meet
      first
        | exact ⟨_, _, rfl, rfl, ((blkAt _ _ _ rfl).alloc _).drew, (blkAt _ _ _ (by simp)).drew, ((x1_0.alloc _).alloc _).drew, ((((Below.refl _ _).alloc (Nat.le_refl _) _).alloc (by simp) _).drew)⟩
        | exact ⟨_, _, rfl, rfl, (blkAt _ _ _ (by simp)).drew, ((blkAt _ _ _ rfl).alloc _).drew, ((x1_0.alloc _).alloc _).drew, ((((Below.refl _ _).alloc (Nat.le_refl _) _).alloc (by simp) _).drew)⟩
  case rest =>
    clear cx1_0_0 cx1_0_1 cx1_0_2 lx1_0_0 lx1_0_1 lx1_0_2 lx1_0_3
    obtain ⟨g3, g4, rfl, rfl, y3, y4, y1, q1⟩ := hcut
    replace h := h.belw q1
    have bwc : Below w.heap.size w wc := bw1.trans (q1.mono bw1.size)
    clear x1_0 bw1
    have cy1_0 : wc.cell? ⟨w.heap.size, 0, none⟩ = some (.bool b) := y1.cell 0
    have cy1_1 : wc.cell? ⟨w.heap.size, 1, none⟩ = some (.slice A n c) := y1.cell 1
    have cy1_2 : wc.cell? ⟨w.heap.size, 2, none⟩ = some (.slice D m e) := y1.cell 2
    obtain ⟨ly1_0, ly1_1, ly1_2, ly1_3⟩ := lts0 y1.lt
    have cy3_0 : wc.cell? ⟨g3, 0, none⟩ = some (.bool false) := y3.cell 0
    have cy3_1 : wc.cell? ⟨g3, 1, none⟩ = some (.slice A n c) := y3.cell 1
    obtain ⟨ly3_0, ly3_1, ly3_2, ly3_3⟩ := lts0 y3.lt
    go_wp2_with fail
    (with_reducible refine (i_valid_e _ false A n c false a.num  ?_ ?_ ?_).mono ?_); (exact h.2.1); (exact H3.out); (have := h.2.2.2.1; have := HK.out; omega); rintro e w7 ⟨rfl, hb7⟩
    clear cy1_0 cy1_1 cy1_2 ly1_0 ly1_1 ly1_2 ly1_3 cy3_0 cy3_1 ly3_0 ly3_1 ly3_2 ly3_3
    have q7 : Below wc.heap.size wc w7 := hb7
    replace h := h.belw q7
    replace y1 := y1.below q7 y1.lt
    replace y3 := y3.below q7 y3.lt
    replace y4 := y4.below q7 y4.lt
    have bw7 : Below w.heap.size w w7 := bwc.trans (q7.mono bwc.size)
    have lw7 : wc.heap.size ≤ w7.heap.size := q7.size
    clear hb7 q7
    obtain ⟨cy4_0, cy4_1⟩ := y4.c2
    obtain ⟨ly4_0, ly4_1, ly4_2, ly4_3⟩ := lts0 y4.lt
    go_wp2_with fail
    go_wp2_with fail
    go_ret
    exact retB HR.out.symm bw7
set_option maxHeartbeats 1000000 in
/-- fraction.Valid -/
theorem f_valid_4 (w : World) (b : Bool) (A : Option Addr) (n c : Nat) (D : Option Addr) (m e : Nat) (a : RD) (k : Nat) (h : QD w b A n c D m e a k) (hk : k ≤ 300000000) (h1 : 0 < n) (h2 : 0 < m) (h3 : WD.ok ⟨false, a.num⟩ = true) (h4 : WD.ok ⟨false, a.den⟩ = false) :
    Calls Tryz.prog 39 #[.agg #[.bool b, .slice A n c, .slice D m e]] w (RetV w (.bool a.ok)) := by
  have HR := Lib.hid (ok_4 h h1 h2 h3 h4)
  have HK := Lib.hid hk
  have H3 := Lib.hid h3
  have e1 : ((n : Int) == 0) = false := by simp; omega
  have e2 : ((m : Int) == 0) = false := by simp; omega
  have H4 := Lib.hid h4
  clear h4
  clear h1 h2 hk h3
  go_enter Tryz.func39, Tryz.ntmps39
  go_wp2_with fail
  have p1 : Kp w (w.alloc (.cells #[.bool b, .slice A n c, .slice D m e] 24)) := ((Kp.refl w).alloc (.cells #[.bool b, .slice A n c, .slice D m e] 24))
  have bw1 : Below w.heap.size w (w.alloc (.cells #[.bool b, .slice A n c, .slice D m e] 24)) := ((brefl w).alloc (by first | omega | (simp <;> omega)) (.cells #[.bool b, .slice A n c, .slice D m e] 24))
  have x1_0 : Blk (w.alloc (.cells #[.bool b, .slice A n c, .slice D m e] 24)) (w.heap.size) 24 #[.bool b, .slice A n c, .slice D m e] := (blkAt _ _ _ (by simp))
  have lw1 : w.heap.size + 1 ≤ (w.alloc (.cells #[.bool b, .slice A n c, .slice D m e] 24)).heap.size := by simp
  generalize hE1 : (w.alloc (.cells #[.bool b, .slice A n c, .slice D m e] 24)) = w1 at p1 bw1 lw1 x1_0 ⊢
  clear hE1
  replace h := h.keep p1
  obtain ⟨cx1_0_0, cx1_0_1, cx1_0_2⟩ := x1_0.c3
  obtain ⟨lx1_0_0, lx1_0_1, lx1_0_2, lx1_0_3⟩ := lts0 x1_0.lt
  go_cut [3, 4] (fun s3 s4 wx => ∃ g3 g4, s3 = .pointer (some ⟨g3, 0, none⟩) ∧ s4 = .pointer (some ⟨g4, 0, none⟩) ∧ Blk wx g3 48 #[.bool false, .slice A n c] ∧ Blk wx g4 48 #[.bool false, .slice D m e] ∧ Blk wx (w.heap.size) 24 #[.bool b, .slice A n c, .slice D m e] ∧ Below w1.heap.size w1 wx)
  case first =>
    go_region_held3 (fun w' => Sees w1.heap.size w1 w') (first | exact Sees.of (Nat.le_refl _) (below_drewN (brefl _) 1) | exact Sees.of (Nat.le_refl _) ((below_drewN (brefl _) 1).alloc (Nat.le_refl _) _) | exact Sees.of (Nat.le_refl _) (((below_drewN (brefl _) 1).alloc (Nat.le_refl _) _).alloc (by simp) _) | exact Sees.of (Nat.le_refl _) ((((below_drewN (brefl _) 1).alloc (Nat.le_refl _) _).alloc (by simp) _).setCell (by simp) _)) (fail)
    all_goals
      go_wp2_with fail
      go_meet
      first
        | exact ⟨_, _, rfl, rfl, ((blkAt _ _ _ rfl).alloc _).drew, (blkAt _ _ _ (by simp)).drew, ((x1_0.alloc _).alloc _).drew, ((((Below.refl _ _).alloc (Nat.le_refl _) _).alloc (by simp) _).drew)⟩
        | exact ⟨_, _, rfl, rfl, (blkAt _ _ _ (by simp)).drew, ((blkAt _ _ _ rfl).alloc _).drew, ((x1_0.alloc _).alloc _).drew, ((((Below.refl _ _).alloc (Nat.le_refl _) _).alloc (by simp) _).drew)⟩
  case rest =>
    clear cx1_0_0 cx1_0_1 cx1_0_2 lx1_0_0 lx1_0_1 lx1_0_2 lx1_0_3
    obtain ⟨g3, g4, rfl, rfl, y3, y4, y1, q1⟩ := hcut
    replace h := h.belw q1
    have bwc : Below w.heap.size w wc := bw1.trans (q1.mono bw1.size)
    clear x1_0 bw1
    obtain ⟨cy1_0, cy1_1, cy1_2⟩ := y1.c3
    obtain ⟨ly1_0, ly1_1, ly1_2, ly1_3⟩ := lts0 y1.lt
    obtain ⟨cy3_0, cy3_1⟩ := y3.c2
    obtain ⟨ly3_0, ly3_1, ly3_2, ly3_3⟩ := lts0 y3.lt
    go_wp2_with fail
    (with_reducible refine (i_valid_e _ false A n c true a.num  ?_ ?_ ?_).mono ?_); (exact h.2.1); (exact H3.out); (have := h.2.2.2.1; have := HK.out; omega); rintro e w7 ⟨rfl, hb7⟩
    clear cy1_0 cy1_1 cy1_2 ly1_0 ly1_1 ly1_2 ly1_3 cy3_0 cy3_1 ly3_0 ly3_1 ly3_2 ly3_3
    have q7 : Below wc.heap.size wc w7 := hb7
    replace h := h.belw q7
    replace y1 := y1.below q7 y1.lt
    replace y3 := y3.below q7 y3.lt
    replace y4 := y4.below q7 y4.lt
    have bw7 : Below w.heap.size w w7 := bwc.trans (q7.mono bwc.size)
    have lw7 : wc.heap.size ≤ w7.heap.size := q7.size
    clear hb7 q7
    obtain ⟨cy4_0, cy4_1⟩ := y4.c2
    obtain ⟨ly4_0, ly4_1, ly4_2, ly4_3⟩ := lts0 y4.lt
    go_wp2_with fail
    (with_reducible refine (i_valid_e _ false D m e false a.den  ?_ ?_ ?_).mono ?_); (exact h.2.2.1); (exact H4.out); (have := h.2.2.2.2; have := HK.out; omega); rintro e w8 ⟨rfl, hb8⟩
    clear cy4_0 cy4_1 ly4_0 ly4_1 ly4_2 ly4_3
    have q8 : Below w7.heap.size w7 w8 := hb8
    replace h := h.belw q8
    replace y1 := y1.below q8 y1.lt
    replace y3 := y3.below q8 y3.lt
    replace y4 := y4.below q8 y4.lt
    have bw8 : Below w.heap.size w w8 := bw7.trans (q8.mono bw7.size)
    have lw8 : w7.heap.size ≤ w8.heap.size := q8.size
    clear hb8 q8 bw7
    go_wp2_with fail
    go_wp2_with fail
    go_ret
    exact retB HR.out.symm bw8
set_option maxHeartbeats 1000000 in
/-- fraction.Valid -/
theorem f_valid_5 (w : World) (b : Bool) (A : Option Addr) (n c : Nat) (D : Option Addr) (m e : Nat) (a : RD) (k : Nat) (h : QD w b A n c D m e a k) (hk : k ≤ 300000000) (h1 : 0 < n) (h2 : 0 < m) (h3 : WD.ok ⟨false, a.num⟩ = true) (h4 : WD.ok ⟨false, a.den⟩ = true) :
    Calls Tryz.prog 39 #[.agg #[.bool b, .slice A n c, .slice D m e]] w (RetV w (.bool a.ok)) := by
  have HR := Lib.hid (ok_5 h h1 h2 h3 h4)
  have HK := Lib.hid hk
  have H3 := Lib.hid h3
  have e1 : ((n : Int) == 0) = false := by simp; omega
  have e2 : ((m : Int) == 0) = false := by simp; omega
  have H4 := Lib.hid h4
  clear h4
  clear h1 h2 hk h3
  go_enter Tryz.func39, Tryz.ntmps39
  go_wp2_with fail
  have p1 : Kp w (w.alloc (.cells #[.bool b, .slice A n c, .slice D m e] 24)) := ((Kp.refl w).alloc (.cells #[.bool b, .slice A n c, .slice D m e] 24))
  have bw1 : Below w.heap.size w (w.alloc (.cells #[.bool b, .slice A n c, .slice D m e] 24)) := ((brefl w).alloc (by first | omega | (simp <;> omega)) (.cells #[.bool b, .slice A n c, .slice D m e] 24))
  have x1_0 : Blk (w.alloc (.cells #[.bool b, .slice A n c, .slice D m e] 24)) (w.heap.size) 24 #[.bool b, .slice A n c, .slice D m e] := (blkAt _ _ _ (by simp))
  have lw1 : w.heap.size + 1 ≤ (w.alloc (.cells #[.bool b, .slice A n c, .slice D m e] 24)).heap.size := by simp
  generalize hE1 : (w.alloc (.cells #[.bool b, .slice A n c, .slice D m e] 24)) = w1 at p1 bw1 lw1 x1_0 ⊢
  clear hE1
  replace h := h.keep p1
  obtain ⟨cx1_0_0, cx1_0_1, cx1_0_2⟩ := x1_0.c3
  obtain ⟨lx1_0_0, lx1_0_1, lx1_0_2, lx1_0_3⟩ := lts0 x1_0.lt
  go_cut [3, 4] (fun s3 s4 wx => ∃ g3 g4, s3 = .pointer (some ⟨g3, 0, none⟩) ∧ s4 = .pointer (some ⟨g4, 0, none⟩) ∧ Blk wx g3 48 #[.bool false, .slice A n c] ∧ Blk wx g4 48 #[.bool false, .slice D m e] ∧ Blk wx (w.heap.size) 24 #[.bool b, .slice A n c, .slice D m e] ∧ Below w1.heap.size w1 wx)
  case first =>
    go_region_held3 (fun w' => Sees w1.heap.size w1 w') (first | exact Sees.of (Nat.le_refl _) (below_drewN (brefl _) 1) | exact Sees.of (Nat.le_refl _) ((below_drewN (brefl _) 1).alloc (Nat.le_refl _) _) | exact Sees.of (Nat.le_refl _) (((below_drewN (brefl _) 1).alloc (Nat.le_refl _) _).alloc (by simp) _) | exact Sees.of (Nat.le_refl _) ((((below_drewN (brefl _) 1).alloc (Nat.le_refl _) _).alloc (by simp) _).setCell (by simp) _)) (fail)
    all_goals
      go_wp2_with fail
      go_meet
      first
        | exact ⟨_, _, rfl, rfl, ((blkAt _ _ _ rfl).alloc _).drew, (blkAt _ _ _ (by simp)).drew, ((x1_0.alloc _).alloc _).drew, ((((Below.refl _ _).alloc (Nat.le_refl _) _).alloc (by simp) _).drew)⟩
        | exact ⟨_, _, rfl, rfl, (blkAt _ _ _ (by simp)).drew, ((blkAt _ _ _ rfl).alloc _).drew, ((x1_0.alloc _).alloc _).drew, ((((Below.refl _ _).alloc (Nat.le_refl _) _).alloc (by simp) _).drew)⟩
  case rest =>
    clear cx1_0_0 cx1_0_1 cx1_0_2 lx1_0_0 lx1_0_1 lx1_0_2 lx1_0_3
    obtain ⟨g3, g4, rfl, rfl, y3, y4, y1, q1⟩ := hcut
    replace h := h.belw q1
    have bwc : Below w.heap.size w wc := bw1.trans (q1.mono bw1.size)
    clear x1_0 bw1
    obtain ⟨cy1_0, cy1_1, cy1_2⟩ := y1.c3
    obtain ⟨ly1_0, ly1_1, ly1_2, ly1_3⟩ := lts0 y1.lt
    obtain ⟨cy3_0, cy3_1⟩ := y3.c2
    obtain ⟨ly3_0, ly3_1, ly3_2, ly3_3⟩ := lts0 y3.lt
    go_wp2_with fail
    (with_reducible refine (i_valid_e _ false A n c true a.num  ?_ ?_ ?_).mono ?_); (exact h.2.1); (exact H3.out); (have := h.2.2.2.1; have := HK.out; omega); rintro e w7 ⟨rfl, hb7⟩
    clear cy1_0 cy1_1 cy1_2 ly1_0 ly1_1 ly1_2 ly1_3 cy3_0 cy3_1 ly3_0 ly3_1 ly3_2 ly3_3
    have q7 : Below wc.heap.size wc w7 := hb7
    replace h := h.belw q7
    replace y1 := y1.below q7 y1.lt
    replace y3 := y3.below q7 y3.lt
    replace y4 := y4.below q7 y4.lt
    have bw7 : Below w.heap.size w w7 := bwc.trans (q7.mono bwc.size)
    have lw7 : wc.heap.size ≤ w7.heap.size := q7.size
    clear hb7 q7
    obtain ⟨cy4_0, cy4_1⟩ := y4.c2
    obtain ⟨ly4_0, ly4_1, ly4_2, ly4_3⟩ := lts0 y4.lt
    go_wp2_with fail
    (with_reducible refine (i_valid_e _ false D m e true a.den  ?_ ?_ ?_).mono ?_); (exact h.2.2.1); (exact H4.out); (have := h.2.2.2.2; have := HK.out; omega); rintro e w8 ⟨rfl, hb8⟩
    clear cy4_0 cy4_1 ly4_0 ly4_1 ly4_2 ly4_3
    have q8 : Below w7.heap.size w7 w8 := hb8
    replace h := h.belw q8
    replace y1 := y1.below q8 y1.lt
    replace y3 := y3.below q8 y3.lt
    replace y4 := y4.below q8 y4.lt
    have bw8 : Below w.heap.size w w8 := bw7.trans (q8.mono bw7.size)
    have lw8 : w7.heap.size ≤ w8.heap.size := q8.size
    clear hb8 q8 bw7
    obtain ⟨cy3_0, cy3_1⟩ := y3.c2
    obtain ⟨ly3_0, ly3_1, ly3_2, ly3_3⟩ := lts0 y3.lt
    obtain ⟨cy4_0, cy4_1⟩ := y4.c2
    obtain ⟨ly4_0, ly4_1, ly4_2, ly4_3⟩ := lts0 y4.lt
    go_wp2_with fail
    have hN := h.num_z H3.out
    have hD := h.den_z H4.out
    obtain ⟨s, hs⟩ : ∃ s, cmpI ((Nat.gcd ((val a.num : Int)).natAbs ((val a.den : Int)).natAbs : Nat)) 1 = s := ⟨_, rfl⟩
    have HC := Lib.hid hs
    clear hs
    (with_reducible refine (i_gcd _ false A n c ((val a.num : Int)) (k) ?_ false D m e ((val a.den : Int)) (k) ?_ ?_).mono ?_); (exact hN); (exact hD); (have := HK.out; omega); rintro e w9 ⟨b9, A9, n9, c9, rfl, h9, hb9⟩
    clear cy3_0 cy3_1 ly3_0 ly3_1 ly3_2 ly3_3 cy4_0 cy4_1 ly4_0 ly4_1 ly4_2 ly4_3
    have q9 : Below w8.heap.size w8 w9 := hb9
    replace h := h.belw q9
    replace hN := hN.belw q9
    replace hD := hD.belw q9
    replace y1 := y1.below q9 y1.lt
    replace y3 := y3.below q9 y3.lt
    replace y4 := y4.below q9 y4.lt
    have bw9 : Below w.heap.size w w9 := bw8.trans (q9.mono bw8.size)
    have lw9 : w8.heap.size ≤ w9.heap.size := q9.size
    clear hb9 q9 bw8
    go_wp2_with fail
    (with_reducible refine (f_one _).mono ?_); rintro e w10 ⟨b10, A10, n10, c10, rfl, h10, hb10⟩
    have q10 : Below w9.heap.size w9 w10 := hb10
    replace h := h.belw q10
    replace hN := hN.belw q10
    replace hD := hD.belw q10
    replace h9 := h9.belw q10
    replace y1 := y1.below q10 y1.lt
    replace y3 := y3.below q10 y3.lt
    replace y4 := y4.below q10 y4.lt
    have bw10 : Below w.heap.size w w10 := bw9.trans (q10.mono bw9.size)
    have lw10 : w9.heap.size ≤ w10.heap.size := q10.size
    clear hb10 q10 bw9
    go_wp2_with fail
    (with_reducible refine (i_cmp_e _ b9 A9 n9 c9 ((Nat.gcd (((val a.num : Int))).natAbs (((val a.den : Int))).natAbs : Nat)) ((k) + (k)) ?_ b10 A10 n10 c10 (1) (1) ?_ s ?_ ?_).mono ?_); (exact h9.iz); (exact h10.iz); (exact HC.out); (have := HK.out; omega); rintro e w11 ⟨rfl, hb11⟩
    have q11 : Below w10.heap.size w10 w11 := hb11
    replace h := h.belw q11
    replace hN := hN.belw q11
    replace hD := hD.belw q11
    replace h9 := h9.belw q11
    replace h10 := h10.belw q11
    replace y1 := y1.below q11 y1.lt
    replace y3 := y3.below q11 y3.lt
    replace y4 := y4.below q11 y4.lt
    have bw11 : Below w.heap.size w w11 := bw10.trans (q11.mono bw10.size)
    have lw11 : w10.heap.size ≤ w11.heap.size := q11.size
    clear hb11 q11 bw10
    go_wp2_with fail
    go_ret
    exact retB (ok_last HC.out HR.out) bw11
theorem f_valid (w : World) (b : Bool) (A : Option Addr) (n c : Nat) (D : Option Addr) (m e : Nat) (a : RD) (k : Nat) (h : QD w b A n c D m e a k) (hk : k ≤ 300000000) : Calls Tryz.prog 39 #[.agg #[.bool b, .slice A n c, .slice D m e]] w (RetV w (.bool a.ok)) := by
  rcases Nat.eq_zero_or_pos n with h1 | h1 <;> rcases Nat.eq_zero_or_pos m with h2 | h2
  · exact f_valid_0 w b A n c D m e a k h hk h1 h2
  · exact f_valid_1 w b A n c D m e a k h hk h1 h2
  · exact f_valid_2 w b A n c D m e a k h hk h1 h2
  · cases h3 : WD.ok ⟨false, a.num⟩
    · exact f_valid_3 w b A n c D m e a k h hk h1 h2 h3
    · cases h4 : WD.ok ⟨false, a.den⟩
      · exact f_valid_4 w b A n c D m e a k h hk h1 h2 h3 h4
      · exact f_valid_5 w b A n c D m e a k h hk h1 h2 h3 h4
end Go.Proofs.YtpnnfbodphflpaaGreatDoor

/- Walks: fractions: the parts. -/
namespace Go.Proofs.YtpnnfbodphflpaaGreatDoor
open Go Go.RowKit Bn
attribute [local go_sem ↓] Go.wp_at_zero Go.wp_at_succ

section
variable {w : World} {b : Bool} {A : Option Addr} {n c : Nat} {D : Option Addr} {m e : Nat} {a : RD} {k : Nat}
theorem q_bad (h : a.ok = false ∨ a.num = []) : a.q.num = 0 ∧ (a.q.den : Int) = 1 := by
  have e1 : (a.ok && a.num != []) = false := by rcases h with h | h <;> simp [h]
  have e2 : a.q = 0 := by unfold RD.q RD.n RD.d; rw [e1]; simp
  rw [e2]; exact ⟨rfl, rfl⟩
theorem q_ok (hn : Wds a.num) (hd : Wds a.den) (ho : a.ok = true) (h0 : a.num ≠ []) : a.num = (wh a.q.num).mag ∧ a.neg = (wh a.q.num).neg ∧ a.den = (wh (a.q.den : Int)).mag := by
  have h1 := rd_of_ok hn hd ho
  have h2 : a.q.num ≠ 0 := by
    intro e
    have : (rd a.q).num = [] := by unfold rd; simp [e, digs_zero]
    rw [h1] at this; exact h0 this
  have h3 : (rd a.q).den = digs a.q.den := by unfold rd; simp [h2]
  refine ⟨?_, ?_, ?_⟩
  · have : (rd a.q).num = digs a.q.num.natAbs := rfl
    rw [h1] at this; exact this
  · have : (rd a.q).neg = decide (a.q.num < 0) := rfl
    rw [h1] at this; exact this
  · rw [h1] at h3; exact h3
theorem den_pos_ (h : QD w b A n c D m e a k) (ho : a.ok = true) (h0 : a.num ≠ []) : 0 < m := by
  rcases Nat.eq_zero_or_pos m with h1 | h1
  · have e2 : a.den = [] := List.eq_nil_of_length_eq_zero (by rw [← h.2.2.1.2.1, h1])
    unfold RD.ok at ho
    rw [if_neg (by intro x; exact h0 x.1)] at ho
    simp [e2] at ho
  · exact h1
end
abbrev SeesY (G g2 g3 : Nat) (v0 v1 : Value) (W0 W : World) : Prop := ((∀ b o, b < G → b ≠ g2 → b ≠ g3 → W.cell? ⟨b, o, none⟩ = W0.cell? ⟨b, o, none⟩) ∧ (∀ b o, b < G → W.frozen? ⟨b, o, none⟩ = W0.frozen? ⟨b, o, none⟩)) ∧ G ≤ W.heap.size ∧ W.cell? ⟨g2, 0, none⟩ = some v0 ∧ W.cell? ⟨g2, 1, none⟩ = some v1
theorem SeesY.of {G g2 g3 : Nat} {v0 v1 : Value} {W0 W : World} (h : G ≤ W0.heap.size) (hb : Below W0.heap.size W0 W) (hg : g2 < W0.heap.size) (h0 : W0.cell? ⟨g2, 0, none⟩ = some v0) (h1 : W0.cell? ⟨g2, 1, none⟩ = some v1) : SeesY G g2 g3 v0 v1 W0 W :=
  ⟨⟨fun b o hlt _ _ => (bcell hb).1 b o (Nat.lt_of_lt_of_le hlt h), fun b o hlt => (bcell hb).2 b o (Nat.lt_of_lt_of_le hlt h)⟩, Nat.le_trans h hb.size, ((bcell hb).1 _ _ hg).trans h0, ((bcell hb).1 _ _ hg).trans h1⟩
theorem cell_set_same {w : World} {p : Addr} {u : Value} (v : Value) (h : w.cell? p = some u) (hp : p.spot = none) : (w.setCell p v).cell? p = some v := by
  obtain ⟨b, o, s⟩ := p
  simp only at hp; subst hp
  unfold World.cell? at h ⊢
  simp only [World.setCell, Array.getElem?_modify, if_true] at h ⊢
  cases hh : w.heap[b]? with
  | none => rw [hh] at h; simp at h
  | some ob =>
    rw [hh] at h
    cases ob <;> simp_all
    obtain ⟨hl, _⟩ := Array.getElem?_eq_some_iff.1 h
    simp [hl]
theorem SeesY.set2 {G g2 g3 : Nat} {v0 v1 : Value} {W0 W : World} (h : SeesY G g2 g3 v0 v1 W0 W) {i : Nat} {u : Value} (hi : (i = 0 ∧ u = v0) ∨ (i = 1 ∧ u = v1)) : SeesY G g2 g3 v0 v1 W0 (W.setCell ⟨g2, i, none⟩ u) := by
  refine ⟨⟨fun b o hlt hne h3 => ?_, fun b o hlt => ?_⟩, ?_, ?_, ?_⟩
  · rw [← h.1.1 b o hlt hne h3]; unfold World.cell?; rw [Below.heap_setCell _ _ _ b hne]
  · rw [← h.1.2 b o hlt]; exact World.frozen?_setCell ..
  · have := h.2.1; simp [World.setCell]; exact this
  · rcases hi with ⟨rfl, rfl⟩ | ⟨rfl, rfl⟩
    · exact cell_set_same _ h.2.2.1 rfl
    · rw [World.cell?_setCell_other _ _ _ _ (by simp)]; exact h.2.2.1
  · rcases hi with ⟨rfl, rfl⟩ | ⟨rfl, rfl⟩
    · rw [World.cell?_setCell_other _ _ _ _ (by simp)]; exact h.2.2.2
    · exact cell_set_same _ h.2.2.2 rfl
theorem SeesY.set3 {G g2 g3 : Nat} {v0 v1 : Value} {W0 W : World} (h : SeesY G g2 g3 v0 v1 W0 W) {i : Nat} {u : Value} (hg : g2 ≠ g3) : SeesY G g2 g3 v0 v1 W0 (W.setCell ⟨g3, i, none⟩ u) := by
  refine ⟨⟨fun b o hlt hne h3 => ?_, fun b o hlt => ?_⟩, ?_, ?_, ?_⟩
  · rw [← h.1.1 b o hlt hne h3]; unfold World.cell?; rw [Below.heap_setCell _ _ _ b h3]
  · rw [← h.1.2 b o hlt]; exact World.frozen?_setCell ..
  · have := h.2.1; simp [World.setCell]; exact this
  · rw [World.cell?_setCell_other _ _ _ _ (by simp <;> omega)]; exact h.2.2.1
  · rw [World.cell?_setCell_other _ _ _ _ (by simp <;> omega)]; exact h.2.2.2
theorem f_valid_e (w : World) (b : Bool) (A : Option Addr) (n c : Nat) (D : Option Addr) (m e : Nat) (a : RD) (k : Nat) (v : Bool) (h : QD w b A n c D m e a k) (hk : k ≤ 300000000) (hv : a.ok = v) :
    Calls Tryz.prog 39 #[.agg #[.bool b, .slice A n c, .slice D m e]] w (RetV w (.bool v)) := by subst hv; exact f_valid w b A n c D m e a k h hk
set_option maxHeartbeats 2000000 in
/-- fraction.Parts -/
theorem f_parts_1 (w : World) (b : Bool) (A : Option Addr) (n c : Nat) (D : Option Addr) (m e : Nat) (a : RD) (k : Nat) (h : QD w b A n c D m e a k) (h0 : 0 < k) (hk : k ≤ 300000000) (ho : a.ok = false) :
    Calls Tryz.prog 87 #[.agg #[.bool b, .slice A n c, .slice D m e]] w (RetII w a.q.num a.q.den k) := by
  have HK := Lib.hid hk
  have HO := Lib.hid ho
  have hq : a.q.num = 0 ∧ (a.q.den : Int) = 1 := q_bad (.inl ho)
  rw [hq.1, hq.2]
  clear hq ho
  have HP := Lib.hid h0
  go_enter Tryz.func87, Tryz.ntmps87
  go_wp2_with fail
  (with_reducible refine (f_valid_e _ b A n c D m e a k false ?_ ?_ ?_).mono ?_); (exact h.belw (((((Below.refl _ _).alloc (Nat.le_refl _) _).alloc (by simp) _).alloc (by simp <;> omega) _))); (exact HK.out); (exact HO.out); rintro e w1 ⟨rfl, hb1⟩
  have q1 : Below w.heap.size w w1 := ((((Below.refl _ _).alloc (Nat.le_refl _) _).alloc (by simp) _).alloc (by simp <;> omega) _).trans (hb1.mono (by simp <;> omega))
  replace h := h.belw q1
  have x1_0 : Blk w1 (w.heap.size) 24 #[.bool b, .slice A n c, .slice D m e] := (((blkAt _ _ _ (by simp)).alloc _).alloc _).below hb1 (by simp <;> omega)
  have x1_1 : Blk w1 (w.heap.size + 1) 48 #[.bool false, .slice none 0 0] := ((blkAt _ _ _ (by simp)).alloc _).below hb1 (by simp <;> omega)
  have x1_2 : Blk w1 (w.heap.size + 1 + 1) 48 #[.bool false, .slice none 0 0] := (blkAt _ _ _ (by simp)).below hb1 (by simp)
  have bw1 : Below w.heap.size w w1 := (brefl w).trans (q1.mono (brefl w).size)
  have lw1 : w.heap.size + 3 ≤ w1.heap.size := by have := hb1.size; simp at this; omega
  clear hb1 q1
  obtain ⟨cx1_0_0, cx1_0_1, cx1_0_2⟩ := x1_0.c3
  obtain ⟨lx1_0_0, lx1_0_1, lx1_0_2, lx1_0_3⟩ := lts0 x1_0.lt
  go_wp2_with fail
  (with_reducible refine (f_one _).mono ?_); rintro e w2 ⟨b2, A2, n2, c2, rfl, h2, hb2⟩
  clear cx1_0_0 cx1_0_1 cx1_0_2 lx1_0_0 lx1_0_1 lx1_0_2 lx1_0_3
  have q2 : Below w1.heap.size w1 w2 := hb2
  replace h := h.belw q2
  replace x1_0 := x1_0.below q2 x1_0.lt
  replace x1_1 := x1_1.below q2 x1_1.lt
  replace x1_2 := x1_2.below q2 x1_2.lt
  have bw2 : Below w.heap.size w w2 := bw1.trans (q2.mono bw1.size)
  have lw2 : w1.heap.size ≤ w2.heap.size := q2.size
  clear hb2 q2 bw1
  obtain ⟨cx1_1_0, cx1_1_1⟩ := x1_1.c2
  obtain ⟨fx1_1_0, fx1_1_1⟩ := x1_1.f2
  obtain ⟨lx1_1_0, lx1_1_1, lx1_1_2, lx1_1_3⟩ := lts1 x1_1.lt
  obtain ⟨cx1_2_0, cx1_2_1⟩ := x1_2.c2
  obtain ⟨fx1_2_0, fx1_2_1⟩ := x1_2.f2
  obtain ⟨lx1_2_0, lx1_2_1, lx1_2_2, lx1_2_3⟩ := lts2 x1_2.lt
  go_wp2_with fail
  refine bodyPost_ret (v := .tuple #[.agg #[.bool false, .slice none 0 0], .agg #[.bool b2, .slice A2 n2 c2]]) (by simp [results, Tryz.results87, go_sem, *] <;> first | rfl | exact ⟨rfl, rfl⟩) rfl ?_
  exact ⟨false, none, 0, 0, b2, A2, n2, c2, rfl, IV.zero _ _, (h2.keep (((((Kp.refl w2).setB (p := ⟨w.heap.size + 1, 0, none⟩) x1_1.box (by decide) (.bool false)).setB (p := ⟨w.heap.size + 1, 1, none⟩) (x1_1.box.set ⟨w.heap.size + 1, 0, none⟩ (.bool false)) (by decide) (.slice none 0 0)).setB (p := ⟨w.heap.size + 1 + 1, 0, none⟩) ((x1_2.box.set ⟨w.heap.size + 1, 0, none⟩ (.bool false)).set ⟨w.heap.size + 1, 1, none⟩ (.slice none 0 0)) (by decide) (.bool b2)).setB (p := ⟨w.heap.size + 1 + 1, 1, none⟩) (((x1_2.box.set ⟨w.heap.size + 1, 0, none⟩ (.bool false)).set ⟨w.heap.size + 1, 1, none⟩ (.slice none 0 0)).set ⟨w.heap.size + 1 + 1, 0, none⟩ (.bool b2)) (by decide) (.slice A2 n2 c2))).mono (by first | exact HP.out | omega), ((((bw2.setCell (p := ⟨w.heap.size + 1, 0, none⟩) (by dsimp only; omega) (.bool false)).setCell (p := ⟨w.heap.size + 1, 1, none⟩) (by dsimp only; omega) (.slice none 0 0)).setCell (p := ⟨w.heap.size + 1 + 1, 0, none⟩) (by dsimp only; omega) (.bool b2)).setCell (p := ⟨w.heap.size + 1 + 1, 1, none⟩) (by dsimp only; omega) (.slice A2 n2 c2))⟩
set_option maxHeartbeats 2000000 in
/-- fraction.Parts -/
theorem f_parts_2 (w : World) (b : Bool) (A : Option Addr) (n c : Nat) (D : Option Addr) (m e : Nat) (a : RD) (k : Nat) (h : QD w b A n c D m e a k) (h0 : 0 < k) (hk : k ≤ 300000000) (ho : a.ok = true) (hn : n = 0) :
    Calls Tryz.prog 87 #[.agg #[.bool b, .slice A n c, .slice D m e]] w (RetII w a.q.num a.q.den k) := by
  have HK := Lib.hid hk
  have HO := Lib.hid ho
  have hq : a.q.num = 0 ∧ (a.q.den : Int) = 1 := q_bad (.inr (List.eq_nil_of_length_eq_zero (by rw [← h.2.1.2.1, hn])))
  rw [hq.1, hq.2]
  clear hq ho
  subst hn
  have HP := Lib.hid h0
  go_enter Tryz.func87, Tryz.ntmps87
  go_wp2_with fail
  (with_reducible refine (f_valid_e _ b A 0 c D m e a k true ?_ ?_ ?_).mono ?_); (exact h.belw (((((Below.refl _ _).alloc (Nat.le_refl _) _).alloc (by simp) _).alloc (by simp <;> omega) _))); (exact HK.out); (exact HO.out); rintro e w1 ⟨rfl, hb1⟩
  have q1 : Below w.heap.size w w1 := ((((Below.refl _ _).alloc (Nat.le_refl _) _).alloc (by simp) _).alloc (by simp <;> omega) _).trans (hb1.mono (by simp <;> omega))
  replace h := h.belw q1
  have x1_0 : Blk w1 (w.heap.size) 24 #[.bool b, .slice A 0 c, .slice D m e] := (((blkAt _ _ _ (by simp)).alloc _).alloc _).below hb1 (by simp <;> omega)
  have x1_1 : Blk w1 (w.heap.size + 1) 48 #[.bool false, .slice none 0 0] := ((blkAt _ _ _ (by simp)).alloc _).below hb1 (by simp <;> omega)
  have x1_2 : Blk w1 (w.heap.size + 1 + 1) 48 #[.bool false, .slice none 0 0] := (blkAt _ _ _ (by simp)).below hb1 (by simp)
  have bw1 : Below w.heap.size w w1 := (brefl w).trans (q1.mono (brefl w).size)
  have lw1 : w.heap.size + 3 ≤ w1.heap.size := by have := hb1.size; simp at this; omega
  clear hb1 q1
  obtain ⟨cx1_0_0, cx1_0_1, cx1_0_2⟩ := x1_0.c3
  obtain ⟨lx1_0_0, lx1_0_1, lx1_0_2, lx1_0_3⟩ := lts0 x1_0.lt
  go_wp2_with fail
  (with_reducible refine (f_one _).mono ?_); rintro e w2 ⟨b2, A2, n2, c2, rfl, h2, hb2⟩
  clear cx1_0_0 cx1_0_1 cx1_0_2 lx1_0_0 lx1_0_1 lx1_0_2 lx1_0_3
  have q2 : Below w1.heap.size w1 w2 := hb2
  replace h := h.belw q2
  replace x1_0 := x1_0.below q2 x1_0.lt
  replace x1_1 := x1_1.below q2 x1_1.lt
  replace x1_2 := x1_2.below q2 x1_2.lt
  have bw2 : Below w.heap.size w w2 := bw1.trans (q2.mono bw1.size)
  have lw2 : w1.heap.size ≤ w2.heap.size := q2.size
  clear hb2 q2 bw1
  obtain ⟨cx1_1_0, cx1_1_1⟩ := x1_1.c2
  obtain ⟨fx1_1_0, fx1_1_1⟩ := x1_1.f2
  obtain ⟨lx1_1_0, lx1_1_1, lx1_1_2, lx1_1_3⟩ := lts1 x1_1.lt
  obtain ⟨cx1_2_0, cx1_2_1⟩ := x1_2.c2
  obtain ⟨fx1_2_0, fx1_2_1⟩ := x1_2.f2
  obtain ⟨lx1_2_0, lx1_2_1, lx1_2_2, lx1_2_3⟩ := lts2 x1_2.lt
  go_wp2_with fail
  refine bodyPost_ret (v := .tuple #[.agg #[.bool false, .slice none 0 0], .agg #[.bool b2, .slice A2 n2 c2]]) (by simp [results, Tryz.results87, go_sem, *] <;> first | rfl | exact ⟨rfl, rfl⟩) rfl ?_
  exact ⟨false, none, 0, 0, b2, A2, n2, c2, rfl, IV.zero _ _, (h2.keep (((((Kp.refl w2).setB (p := ⟨w.heap.size + 1, 0, none⟩) x1_1.box (by decide) (.bool false)).setB (p := ⟨w.heap.size + 1, 1, none⟩) (x1_1.box.set ⟨w.heap.size + 1, 0, none⟩ (.bool false)) (by decide) (.slice none 0 0)).setB (p := ⟨w.heap.size + 1 + 1, 0, none⟩) ((x1_2.box.set ⟨w.heap.size + 1, 0, none⟩ (.bool false)).set ⟨w.heap.size + 1, 1, none⟩ (.slice none 0 0)) (by decide) (.bool b2)).setB (p := ⟨w.heap.size + 1 + 1, 1, none⟩) (((x1_2.box.set ⟨w.heap.size + 1, 0, none⟩ (.bool false)).set ⟨w.heap.size + 1, 1, none⟩ (.slice none 0 0)).set ⟨w.heap.size + 1 + 1, 0, none⟩ (.bool b2)) (by decide) (.slice A2 n2 c2))).mono (by first | exact HP.out | omega), ((((bw2.setCell (p := ⟨w.heap.size + 1, 0, none⟩) (by dsimp only; omega) (.bool false)).setCell (p := ⟨w.heap.size + 1, 1, none⟩) (by dsimp only; omega) (.slice none 0 0)).setCell (p := ⟨w.heap.size + 1 + 1, 0, none⟩) (by dsimp only; omega) (.bool b2)).setCell (p := ⟨w.heap.size + 1 + 1, 1, none⟩) (by dsimp only; omega) (.slice A2 n2 c2))⟩
set_option maxHeartbeats 4000000 in
/-- fraction.Parts -/
theorem f_parts_3 (w : World) (b : Bool) (A : Option Addr) (n c : Nat) (D : Option Addr) (m e : Nat) (a : RD) (k : Nat) (h : QD w b A n c D m e a k) (h0 : 0 < k) (hk : k ≤ 300000000) (ho : a.ok = true) (hn : a.num ≠ []) :
    Calls Tryz.prog 87 #[.agg #[.bool b, .slice A n c, .slice D m e]] w (RetII w a.q.num a.q.den k) := by
  have HK := Lib.hid hk
  have HO := Lib.hid ho
  obtain ⟨e1, e2, e3⟩ := q_ok h.2.1.1 h.2.2.1.1 ho hn
  have HE := Lib.hid (And.intro e1 (And.intro e2 e3))
  have hnp : 0 < n := by rcases Nat.eq_zero_or_pos n with h1 | h1; exact absurd (List.eq_nil_of_length_eq_zero (by rw [← h.2.1.2.1, h1])) hn; exact h1
  have hmp : 0 < m := den_pos_ h ho hn
  have en : ((n : Int) == 0) = false := by simp; omega
  have hkn : n ≤ 300000000 := Nat.le_trans h.2.2.2.1 hk
  have hkm : m ≤ 300000000 := Nat.le_trans h.2.2.2.2 hk
  obtain ⟨i0, hi0, hz0, hz1, hz2⟩ := info_parts info_u32
  obtain ⟨gA, oA, eA, hlA, _⟩ := h.2.1.at2 hnp
  obtain ⟨gD, oD, eD, hlD, _⟩ := h.2.2.1.at2 hmp
  subst eA eD
  clear ho hn e1 e2 e3 hk
  go_enter Tryz.func87, Tryz.ntmps87
  go_wp2_with fail
  (with_reducible refine (f_valid_e _ b (some ⟨gA, oA, none⟩) n c (some ⟨gD, oD, none⟩) m e a k true ?_ ?_ ?_).mono ?_); (exact h.belw (((((Below.refl _ _).alloc (Nat.le_refl _) _).alloc (by simp) _).alloc (by simp <;> omega) _))); (exact HK.out); (exact HO.out); rintro e w1 ⟨rfl, hb1⟩
  have q1 : Below w.heap.size w w1 := ((((Below.refl _ _).alloc (Nat.le_refl _) _).alloc (by simp) _).alloc (by simp <;> omega) _).trans (hb1.mono (by simp <;> omega))
  replace h := h.belw q1
  have x1_0 : Blk w1 (w.heap.size) 24 #[.bool b, .slice (some ⟨gA, oA, none⟩) n c, .slice (some ⟨gD, oD, none⟩) m e] := (((blkAt _ _ _ (by simp)).alloc _).alloc _).below hb1 (by simp <;> omega)
  have x1_1 : Blk w1 (w.heap.size + 1) 48 #[.bool false, .slice none 0 0] := ((blkAt _ _ _ (by simp)).alloc _).below hb1 (by simp <;> omega)
  have x1_2 : Blk w1 (w.heap.size + 1 + 1) 48 #[.bool false, .slice none 0 0] := (blkAt _ _ _ (by simp)).below hb1 (by simp)
  have bw1 : Below w.heap.size w w1 := (brefl w).trans (q1.mono (brefl w).size)
  have lw1 : w.heap.size + 3 ≤ w1.heap.size := by have := hb1.size; simp at this; omega
  clear hb1 q1
  obtain ⟨cx1_0_0, cx1_0_1, cx1_0_2⟩ := x1_0.c3
  obtain ⟨lx1_0_0, lx1_0_1, lx1_0_2, lx1_0_3⟩ := lts0 x1_0.lt
  obtain ⟨cx1_1_0, cx1_1_1⟩ := x1_1.c2
  obtain ⟨fx1_1_0, fx1_1_1⟩ := x1_1.f2
  obtain ⟨lx1_1_0, lx1_1_1, lx1_1_2, lx1_1_3⟩ := lts1 x1_1.lt
  obtain ⟨cx1_2_0, cx1_2_1⟩ := x1_2.c2
  obtain ⟨fx1_2_0, fx1_2_1⟩ := x1_2.f2
  obtain ⟨lx1_2_0, lx1_2_1, lx1_2_2, lx1_2_3⟩ := lts2 x1_2.lt
  go_wp2_with fail
  have howna := World.ownsRow_lit (e := 84) (size := 1) w1 #[] 0 (Nat.le_refl _) (by simp [maxLen]) rfl
  have hnewsa := ((h.2.1).keep ((Kp.refl w1).alloc (.cells #[] 84))).news (by omega) (Nat.le_refl _)
  have hnla : (words (a.num.take n)).length = n * 1 := by rw [words_len, List.length_take]; have := (h.2.1).2.1; omega
  have HOa := Lib.hid howna
  have HNa := Lib.hid hnewsa
  have HNLa := Lib.hid hnla
  clear howna hnewsa hnla
  have nf0 : ¬ w.heap.size = w.heap.size + 1 := by omega
  have nf2 : ¬ w.heap.size + 1 + 1 = w.heap.size + 1 := by omega
  have nfa : ¬ w1.heap.size = w.heap.size + 1 := by have := x1_1.lt; omega
  go_region_held3 (fun w' => SeesX w1.heap.size (w.heap.size + 1) w1 w') (first | exact SeesX.of (Nat.le_refl _) (below_drewN (brefl _) 1) | exact SeesX.of (Nat.le_refl _) ((below_drewN (brefl _) 1).alloc (Nat.le_refl _) _) | exact SeesX.of (Nat.le_refl _) (((brefl _).alloc (Nat.le_refl _) _).drew) | exact SeesX.of (Nat.le_refl _) (by assumption) | exact SeesX.set (SeesX.of (Nat.le_refl _) (by assumption)) | exact SeesX.set (SeesX.set (SeesX.of (Nat.le_refl _) (by assumption)))) ((refine step_append_lies _ rfl _ _ _ rfl w1.heap.size 84 i0 (.int .u32 0) 1 4 Tryz.underlying22 hi0 hz0 hz1 hz2 rfl (by omega) _ 0 [] rfl (by first | exact HOa.out | exact HOa.out.drew) ⟨gA, oA, none⟩ n c (words (a.num.take n)) rfl HNLa.out HNa.out (words_one _) (by omega) (by unfold maxLen; omega) (by omega) (by simp) (w1.heap.size + 1) (by simp) ?_; intro ga capa va howna hgrowa hata hlta; have qa : Below w1.heap.size w1 va := (((Below.refl _ _).alloc (Nat.le_refl _) _).drew).grown hgrowa (by simp) (fun b hb => Nat.le_of_eq (Option.some.inj hb)); have y1 : Blk va (w.heap.size + 1) 48 #[.bool false, .slice none 0 0] := x1_1.below qa x1_1.lt; obtain ⟨cy10, cy11⟩ := y1.c2; obtain ⟨fy10, fy11⟩ := y1.f2))
  simp only [Nat.zero_add, List.nil_append] at howna
  have hwa : Wd va (some ⟨ga, 0, none⟩) n capa a.num := by
    have x := Wd.of_own howna (Wds.take (h.2.1).1 n)
    rwa [List.take_of_length_le (Nat.le_of_eq (h.2.1).2.1.symm)] at x
  clear howna hgrowa hata HOa HNa HNLa
  clear cx1_0_0 cx1_0_1 cx1_0_2 lx1_0_0 lx1_0_1 lx1_0_2 lx1_0_3 cx1_1_0 fx1_1_0 cx1_1_1 fx1_1_1 lx1_1_0 lx1_1_1 lx1_1_2 lx1_1_3 cx1_2_0 fx1_2_0 cx1_2_1 fx1_2_1 lx1_2_0 lx1_2_1 lx1_2_2 lx1_2_3
  clear cy10 cy11 fy10 fy11 nfa nf0 nf2
  replace x1_0 := x1_0.below qa x1_0.lt
  replace x1_2 := x1_2.below qa x1_2.lt
  replace h := h.belw qa
  have bwa : Below w.heap.size w va := bw1.trans (qa.mono bw1.size)
  have lwa : w1.heap.size ≤ va.heap.size := qa.size
  clear x1_1
  go_wp2_with fail
  have p5 : Kp va ((va.setCell ⟨w.heap.size + 1, 0, none⟩ (.bool b)).setCell ⟨w.heap.size + 1, 1, none⟩ (.slice (some ⟨ga, 0, none⟩) n capa)) := (((Kp.refl va).setB (p := ⟨w.heap.size + 1, 0, none⟩) y1.box (by decide) (.bool b)).setB (p := ⟨w.heap.size + 1, 1, none⟩) (y1.box.set ⟨w.heap.size + 1, 0, none⟩ (.bool b)) (by decide) (.slice (some ⟨ga, 0, none⟩) n capa))
  have bw5 : Below w.heap.size w ((va.setCell ⟨w.heap.size + 1, 0, none⟩ (.bool b)).setCell ⟨w.heap.size + 1, 1, none⟩ (.slice (some ⟨ga, 0, none⟩) n capa)) := ((bwa.setCell (p := ⟨w.heap.size + 1, 0, none⟩) (by dsimp only; omega) (.bool b)).setCell (p := ⟨w.heap.size + 1, 1, none⟩) (by dsimp only; omega) (.slice (some ⟨ga, 0, none⟩) n capa))
  replace x1_0 : Blk ((va.setCell ⟨w.heap.size + 1, 0, none⟩ (.bool b)).setCell ⟨w.heap.size + 1, 1, none⟩ (.slice (some ⟨ga, 0, none⟩) n capa)) (w.heap.size) 24 #[.bool b, .slice (some ⟨gA, oA, none⟩) n c, .slice (some ⟨gD, oD, none⟩) m e] := ((x1_0.far (p := ⟨w.heap.size + 1, 0, none⟩) (by dsimp only; omega) (.bool b)).far (p := ⟨w.heap.size + 1, 1, none⟩) (by dsimp only; omega) (.slice (some ⟨ga, 0, none⟩) n capa))
  replace y1 : Blk ((va.setCell ⟨w.heap.size + 1, 0, none⟩ (.bool b)).setCell ⟨w.heap.size + 1, 1, none⟩ (.slice (some ⟨ga, 0, none⟩) n capa)) (w.heap.size + 1) 48 #[.bool b, .slice (some ⟨ga, 0, none⟩) n capa] := ((y1.set_at 0 (.bool b) #[.bool b, .slice none 0 0] (by simp)).set_at 1 (.slice (some ⟨ga, 0, none⟩) n capa) #[.bool b, .slice (some ⟨ga, 0, none⟩) n capa] (by simp))
  replace x1_2 : Blk ((va.setCell ⟨w.heap.size + 1, 0, none⟩ (.bool b)).setCell ⟨w.heap.size + 1, 1, none⟩ (.slice (some ⟨ga, 0, none⟩) n capa)) (w.heap.size + 1 + 1) 48 #[.bool false, .slice none 0 0] := ((x1_2.far (p := ⟨w.heap.size + 1, 0, none⟩) (by dsimp only; omega) (.bool b)).far (p := ⟨w.heap.size + 1, 1, none⟩) (by dsimp only; omega) (.slice (some ⟨ga, 0, none⟩) n capa))
  have lw5 : va.heap.size + 0 ≤ ((va.setCell ⟨w.heap.size + 1, 0, none⟩ (.bool b)).setCell ⟨w.heap.size + 1, 1, none⟩ (.slice (some ⟨ga, 0, none⟩) n capa)).heap.size := by simp
  generalize hE5 : ((va.setCell ⟨w.heap.size + 1, 0, none⟩ (.bool b)).setCell ⟨w.heap.size + 1, 1, none⟩ (.slice (some ⟨ga, 0, none⟩) n capa)) = w5 at p5 bw5 lw5 x1_0 y1 x1_2 ⊢
  clear hE5
  replace h := h.keep p5
  replace hwa := hwa.keep p5
  obtain ⟨cx1_0_0, cx1_0_1, cx1_0_2⟩ := x1_0.c3
  obtain ⟨lx1_0_0, lx1_0_1, lx1_0_2, lx1_0_3⟩ := lts0 x1_0.lt
  obtain ⟨cy1_0, cy1_1⟩ := y1.c2
  obtain ⟨fy1_0, fy1_1⟩ := y1.f2
  obtain ⟨ly1_0, ly1_1, ly1_2, ly1_3⟩ := lts1 y1.lt
  obtain ⟨cx1_2_0, cx1_2_1⟩ := x1_2.c2
  obtain ⟨fx1_2_0, fx1_2_1⟩ := x1_2.f2
  obtain ⟨lx1_2_0, lx1_2_1, lx1_2_2, lx1_2_3⟩ := lts2 x1_2.lt
  have hownd := World.ownsRow_lit (e := 84) (size := 1) w5 #[] 0 (Nat.le_refl _) (by simp [maxLen]) rfl
  have hnewsd := ((h.2.2.1).keep ((Kp.refl w5).alloc (.cells #[] 84))).news (by omega) (Nat.le_refl _)
  have hnld : (words (a.den.take m)).length = m * 1 := by rw [words_len, List.length_take]; have := (h.2.2.1).2.1; omega
  have HOd := Lib.hid hownd
  have HNd := Lib.hid hnewsd
  have HNLd := Lib.hid hnld
  clear hownd hnewsd hnld
  have nf0 : ¬ w.heap.size = w.heap.size + 1 := by omega
  have nf1 : ¬ w.heap.size = w.heap.size + 2 := by omega
  have nf2 : ¬ w.heap.size + 1 = w.heap.size + 1 + 1 := by omega
  have nf3 : ¬ w.heap.size = w.heap.size + 1 := by omega
  clear nf3
  go_region_held3 (fun w' => SeesY w5.heap.size (w.heap.size + 1) (w.heap.size + 1 + 1) (.bool b) (.slice (some ⟨ga, 0, none⟩) n capa) w5 w') (first | with_reducible exact SeesY.of (Nat.le_refl _) ((brefl _).drew) y1.lt cy1_0 cy1_1 | with_reducible exact SeesY.of (Nat.le_refl _) (((brefl _).alloc (Nat.le_refl _) _).drew) y1.lt cy1_0 cy1_1 | with_reducible exact SeesY.of (Nat.le_refl _) (by assumption) y1.lt cy1_0 cy1_1 | with_reducible exact (SeesY.set2 (SeesY.of (Nat.le_refl _) (by assumption) y1.lt cy1_0 cy1_1) (.inl ⟨rfl, rfl⟩)) | with_reducible exact (SeesY.set2 (SeesY.set2 (SeesY.of (Nat.le_refl _) (by assumption) y1.lt cy1_0 cy1_1) (.inl ⟨rfl, rfl⟩)) (.inr ⟨rfl, rfl⟩)) | with_reducible exact (SeesY.set3 (SeesY.set2 (SeesY.set2 (SeesY.of (Nat.le_refl _) (by assumption) y1.lt cy1_0 cy1_1) (.inl ⟨rfl, rfl⟩)) (.inr ⟨rfl, rfl⟩)) (by omega)) | with_reducible exact (SeesY.set3 (SeesY.set3 (SeesY.set2 (SeesY.set2 (SeesY.of (Nat.le_refl _) (by assumption) y1.lt cy1_0 cy1_1) (.inl ⟨rfl, rfl⟩)) (.inr ⟨rfl, rfl⟩)) (by omega)) (by omega))) ((refine step_append_lies _ rfl _ _ _ rfl w5.heap.size 84 i0 (.int .u32 0) 1 4 Tryz.underlying22 hi0 hz0 hz1 hz2 rfl (by omega) _ 0 [] rfl (by first | exact HOd.out | exact HOd.out.drew) ⟨gD, oD, none⟩ m e (words (a.den.take m)) rfl HNLd.out HNd.out (words_one _) (by omega) (by unfold maxLen; omega) (by omega) (by simp) (w5.heap.size + 1) (by simp) ?_; intro gd capd vd hownd hgrowd hatd hltd; have qd : Below w5.heap.size w5 vd := (((Below.refl _ _).alloc (Nat.le_refl _) _).drew).grown hgrowd (by simp) (fun b hb => Nat.le_of_eq (Option.some.inj hb)); have z1 : Blk vd (w.heap.size + 1) 48 #[.bool b, .slice (some ⟨ga, 0, none⟩) n capa] := y1.below qd y1.lt; obtain ⟨cz10, cz11⟩ := z1.c2; obtain ⟨fz10, fz11⟩ := z1.f2; have z2 : Blk vd (w.heap.size + 1 + 1) 48 #[.bool false, .slice none 0 0] := x1_2.below qd x1_2.lt; obtain ⟨cz20, cz21⟩ := z2.c2; obtain ⟨fz20, fz21⟩ := z2.f2))
  simp only [Nat.zero_add, List.nil_append] at hownd
  have hwd : Wd vd (some ⟨gd, 0, none⟩) m capd a.den := by
    have x := Wd.of_own hownd (Wds.take (h.2.2.1).1 m)
    rwa [List.take_of_length_le (Nat.le_of_eq (h.2.2.1).2.1.symm)] at x
  clear hownd hgrowd hatd HOd HNd HNLd
  clear cx1_0_0 cx1_0_1 cx1_0_2 lx1_0_0 lx1_0_1 lx1_0_2 lx1_0_3 cy1_0 fy1_0 cy1_1 fy1_1 ly1_0 ly1_1 ly1_2 ly1_3 cx1_2_0 fx1_2_0 cx1_2_1 fx1_2_1 lx1_2_0 lx1_2_1 lx1_2_2 lx1_2_3
  replace x1_0 := x1_0.below qd x1_0.lt
  replace hwa := hwa.belw qd
  have bwd : Below w.heap.size w vd := bw5.trans (qd.mono bw5.size)
  have lwd : w5.heap.size ≤ vd.heap.size := qd.size
  go_wp2_with fail
  refine bodyPost_ret (v := .tuple #[.agg #[.bool b, .slice (some ⟨ga, 0, none⟩) n capa], .agg #[.bool false, .slice (some ⟨gd, 0, none⟩) m capd]]) (by simp [results, Tryz.results87, go_sem, *] <;> first | rfl | exact ⟨rfl, rfl⟩) rfl ?_
  have kp := (((((Kp.refl vd).setB (p := ⟨w.heap.size + 1, 0, none⟩) z1.box (by decide) (.bool b)).setB (p := ⟨w.heap.size + 1, 1, none⟩) (z1.box.set ⟨w.heap.size + 1, 0, none⟩ (.bool b)) (by decide) (.slice (some ⟨ga, 0, none⟩) n capa)).setB (p := ⟨w.heap.size + 1 + 1, 0, none⟩) ((z2.box.set ⟨w.heap.size + 1, 0, none⟩ (.bool b)).set ⟨w.heap.size + 1, 1, none⟩ (.slice (some ⟨ga, 0, none⟩) n capa)) (by decide) (.bool false)).setB (p := ⟨w.heap.size + 1 + 1, 1, none⟩) (((z2.box.set ⟨w.heap.size + 1, 0, none⟩ (.bool b)).set ⟨w.heap.size + 1, 1, none⟩ (.slice (some ⟨ga, 0, none⟩) n capa)).set ⟨w.heap.size + 1 + 1, 0, none⟩ (.bool false)) (by decide) (.slice (some ⟨gd, 0, none⟩) m capd))
  exact ⟨b, some ⟨ga, 0, none⟩, n, capa, false, some ⟨gd, 0, none⟩, m, capd, rfl, ⟨h.1.symm.trans HE.out.2.1, HE.out.1 ▸ hwa.keep kp, h.2.2.2.1⟩, ⟨by simp [wh], HE.out.2.2 ▸ hwd.keep kp, h.2.2.2.2⟩, ((((bwd.setCell (p := ⟨w.heap.size + 1, 0, none⟩) (by dsimp only; omega) (.bool b)).setCell (p := ⟨w.heap.size + 1, 1, none⟩) (by dsimp only; omega) (.slice (some ⟨ga, 0, none⟩) n capa)).setCell (p := ⟨w.heap.size + 1 + 1, 0, none⟩) (by dsimp only; omega) (.bool false)).setCell (p := ⟨w.heap.size + 1 + 1, 1, none⟩) (by dsimp only; omega) (.slice (some ⟨gd, 0, none⟩) m capd))⟩
theorem f_parts (w : World) (b : Bool) (A : Option Addr) (n c : Nat) (D : Option Addr) (m e : Nat) (q : Rat) (k : Nat) (h : QZ w b A n c D m e q k) (h0 : 0 < k) (hk : k ≤ 300000000) :
    Calls Tryz.prog 87 #[.agg #[.bool b, .slice A n c, .slice D m e]] w (RetII w q.num q.den k) := by
  obtain ⟨a, h, rfl⟩ := h
  cases ho : a.ok
  · exact f_parts_1 w b A n c D m e a k h h0 hk ho
  · by_cases hn : n = 0
    · exact f_parts_2 w b A n c D m e a k h h0 hk ho hn
    · exact f_parts_3 w b A n c D m e a k h h0 hk ho (h.num_ne (by omega))
end Go.Proofs.YtpnnfbodphflpaaGreatDoor
