/- Part UW4: lemmas and walks that the claim rests on. No claim is made here. -/
import Derived.Deep.RegionHeld3
import Derived.Deep.DrawnRows
import Derived.BigQuiet
import Derived.Test.YtkpjhmpjihchpaaGreatDoorUW3
set_option linter.unusedVariables false
set_option maxHeartbeats 8000000
set_option maxRecDepth 100000
/- Walks: integer.Root. -/
namespace Go.Proofs.YtkpjhmpjihchpaaGreatDoor
open Go Go.RowKit Bn

def RetIe (w : World) (v : Value) (z : Int) (k : Nat) (e : Ending) (w' : World) : Prop := ∃ b A n c, e = .returned (.tuple #[.agg #[.bool b, .slice A n c], v]) ∧ IV w' b A n c z k ∧ Below w.heap.size w w'
def rootZ (z : Int) : Int := if z < 0 then 0 else (isq z.natAbs : Nat)
def rootE (z : Int) : Value := if z < 0 then .iface 77 (.int .i64 3) else .nilIface
theorem root_lt {z : Int} {k : Nat} (h : z.natAbs < 4294967296 ^ k) : (rootZ z).natAbs < 4294967296 ^ k := by
  unfold rootZ
  split
  · simp only [Int.natAbs_zero]; omega
  · simp only [Int.natAbs_natCast]
    refine Nat.lt_of_le_of_lt ?_ h
    have := isq_le z.natAbs
    rcases Nat.eq_zero_or_pos (isq z.natAbs) with e | e
    · omega
    · exact Nat.le_trans (Nat.le_mul_of_pos_right _ e) this
theorem down_1 (w : World) (A : Option Addr) (n c v : Nat) (wa : Wd w A n c (digs v)) (hn : n ≤ 1099511627776) :
    Calls Tryz.prog 151 #[.slice A n c, .int .i64 1] w (RetL w (digs (v / 2))) := by
  have := down_c w A n c (digs v) wa hn 1 (by omega)
  rw [val_digs, Nat.pow_one] at this
  exact this
theorem digs_n {w w1 : World} {A : Option Addr} {n c v k : Nat} (h : Wd w A n c (digs v)) {u : Nat} (hv : v ≤ u) {A' : Option Addr} {n' c' : Nat} (h' : Wd w1 A' n' c' (digs u)) (hk : n' ≤ k) : n ≤ k := by
  rw [h.2.1]
  refine Nat.le_trans (length_digs_le (Nat.lt_of_le_of_lt hv ?_)) hk
  have := h'.vlt (Nat.le_refl _)
  rwa [val_digs] at this
theorem digs_add_n {w w1 w2 : World} {A : Option Addr} {n c u v : Nat} (h : Wd w A n c (digs (u + v))) {A' : Option Addr} {n' c' : Nat} (h' : Wd w1 A' n' c' (digs u)) {A2 : Option Addr} {n2 c2 : Nat} (h2 : Wd w2 A2 n2 c2 (digs v)) : n ≤ n' + n2 + 1 := by
  rw [h.2.1]
  apply length_digs_le
  have h3 := h'.vlt (Nat.le_refl _)
  have h4 := h2.vlt (Nat.le_refl _)
  rw [val_digs] at h3 h4
  have h5 : 4294967296 ^ n' ≤ 4294967296 ^ (n' + n2) := Nat.pow_le_pow_right (by omega) (by omega)
  have h6 : 4294967296 ^ n2 ≤ 4294967296 ^ (n' + n2) := Nat.pow_le_pow_right (by omega) (by omega)
  rw [Nat.pow_succ]
  omega
def NewtI (M K : Nat) (W0 wr : World) (x : Value) : Prop := ∃ A1 n1 c1 X, x = .slice A1 n1 c1 ∧ n1 ≤ K ∧ Kept (Wd wr A1 n1 c1 (digs X) ∧ isq M ≤ X ∧ 0 < X) ∧ Below W0.heap.size W0 wr
theorem root_C (w : World) (b : Bool) (A : Option Addr) (n c : Nat) (l : List Nat) (k : Nat) (wa : Wd w A n c l) (hk : n ≤ k) (hn : k ≤ 1000000000) :
  Calls Tryz.prog 109 #[.agg #[.bool b, .slice A n c]] w (RetIe w (rootE (WD.z ⟨b, l⟩)) (rootZ (WD.z ⟨b, l⟩)) k) := by
 have hzlt : (rootZ (WD.z ⟨b, l⟩)).natAbs < 4294967296 ^ k := root_lt (WD.z_lt wa hk)
 have HL := Lib.hid wa.2.1
 have HZL := Lib.hid hzlt
 have hcm : Canon (WD.m ⟨b, l⟩) := WD.canon_m wa.1
 obtain ⟨M, hM⟩ : ∃ M, WD.m ⟨b, l⟩ = digs M := ⟨_, (digs_val hcm).symm⟩
 have hze := WD.z_eq ⟨b, l⟩
 rw [hM, val_digs] at hze
 obtain ⟨Z, hZ⟩ : ∃ Z, WD.z ⟨b, l⟩ = Z := ⟨_, rfl⟩
 rw [hZ] at hze hzlt ⊢
 have HZ := Lib.hid hZ
 have HM := Lib.hid hM
 have b1 : Below w.heap.size w ((w.alloc (.cells #[.bool b, .slice A n c] 46)).alloc (.cells #[.bool false, .slice none 0 0] 46)) := ((Below.refl _ _).alloc (Nat.le_refl _) _).alloc (by simp) _
 have x1 : Blk ((w.alloc (.cells #[.bool b, .slice A n c] 46)).alloc (.cells #[.bool false, .slice none 0 0] 46)) w.heap.size 46 #[.bool b, .slice A n c] := (blkAt _ _ _ rfl).alloc _
 have y1 : Blk ((w.alloc (.cells #[.bool b, .slice A n c] 46)).alloc (.cells #[.bool false, .slice none 0 0] 46)) (w.heap.size + 1) 46 #[.bool false, .slice none 0 0] := blkAt _ _ _ (by simp)
 clear hzlt hM hcm hZ
 cases hs : WD.s ⟨b, l⟩ with
 | true =>
  have HS := Lib.hid hs
  rw [hs] at hze
  have hMp : 0 < M := by
   rcases Nat.eq_zero_or_pos M with e | e
   ·exfalso
    have h1 := HM.out
    rw [e, digs_zero] at h1
    unfold WD.s at hs
    unfold WD.m at h1
    cases ho : WD.ok ⟨b, l⟩
    ·rw [ho] at hs; exact absurd hs (by simp)
    ·rw [ho] at hs h1
     simp only [if_true] at h1
     simp only [Bool.true_and] at hs
     subst hs
     subst h1
     exact absurd ho (by decide)
   ·exact e
  have hZn : Z < 0 := by rw [hze]; simp [sgn]; omega
  have hRE : rootE Z = .iface 77 (.int .i64 3) := by unfold rootE; rw [if_pos hZn]
  have hRZ : rootZ Z = 0 := by unfold rootZ; rw [if_pos hZn]
  rw [hRE, hRZ]
  clear hRE hRZ hZn hze hMp hs
  go_enter Tryz.func109, Tryz.ntmps109
  go_wp2_with (go_at_call 119; (with_reducible refine (neg_e _ b A n c l true ?_ ?_ HS.out).mono ?_); (exact wa.belw b1); (omega); rintro e w2 ⟨rfl, hb2⟩; have x2 := x1.below hb2 x1.lt; have y2 := y1.below hb2 y1.lt; obtain ⟨cx0, cx1⟩ := x2.c2; obtain ⟨cy0, cy1⟩ := y2.c2; obtain ⟨fy0, fy1⟩ := y2.f2)
  refine bodyPost_ret (v := .tuple #[.agg #[.bool false, .slice none 0 0], .iface 77 (.int .i64 3)]) (by simp [results, Tryz.results109, go_sem, *] <;> first | rfl | exact ⟨rfl, rfl⟩) rfl ?_
  exact ⟨_, _, _, _, rfl, IV.zero _ _, ((b1.trans (hb2.mono b1.size)).setCell (by dsimp only; omega) _).setCell (by dsimp only; omega) _⟩
 | false =>
  have HS := Lib.hid hs
  rw [hs] at hze
  have hZM : Z = M := by rw [hze]; rfl
  have hZn : ¬ Z < 0 := by omega
  have hRE : rootE Z = .nilIface := by unfold rootE; rw [if_neg hZn]
  have hRZ : rootZ Z = (isq M : Nat) := by unfold rootZ; rw [if_neg hZn, show Z.natAbs = M by omega]
  rw [hRE, hRZ]
  have HR := Lib.hid hRZ
  clear hRE hRZ hZn hze hs
  by_cases hM0 : M = 0
  ·subst hM0
   go_enter Tryz.func109, Tryz.ntmps109
   go_wp2_with (first
    | (go_at_call 119; (with_reducible refine (neg_e _ b A n c l false ?_ ?_ HS.out).mono ?_); (exact wa.belw b1); (omega); rintro e w2 ⟨rfl, hb2⟩; have x2 := x1.below hb2 x1.lt; have y2 := y1.below hb2 y1.lt; have b2 := b1.trans (hb2.mono b1.size); obtain ⟨cx0, cx1⟩ := x2.c2)
    | (go_at_call 118; (with_reducible refine (mag_c _ b A n c l ?_ ?_).mono ?_); (exact wa.belw b2); (omega); rintro e w3 ⟨A1, n1, c1, rfl, h1, hb3⟩; rw [HM.out, digs_zero] at h1; obtain rfl : n1 = 0 := h1.2.1; have b3 := b2.trans (hb3.mono b2.size); have y3 := y2.below hb3 y2.lt; obtain ⟨cy0, cy1⟩ := y3.c2; obtain ⟨fy0, fy1⟩ := y3.f2))
   refine bodyPost_ret (v := .tuple #[.agg #[.bool false, .slice none 0 0], .nilIface]) (by simp [results, Tryz.results109, go_sem, *] <;> first | rfl | exact ⟨rfl, rfl⟩) rfl ?_
   exact ⟨_, _, _, _, rfl, by rw [show isq 0 = 0 from rfl]; exact IV.zero _ _, (b3.setCell (by dsimp only; omega) _).setCell (by dsimp only; omega) _⟩
  ·have hMp : 0 < M := Nat.pos_of_ne_zero hM0
   obtain ⟨N, hN⟩ : ∃ N, blen M = N := ⟨_, rfl⟩
   have hNz : blen (WD.z ⟨b, l⟩).natAbs = N := by rw [HZ.out, hZM]; simpa using hN
   obtain ⟨j, hj⟩ : ∃ j, (N + 1) / 2 = j := ⟨_, rfl⟩
   obtain ⟨i, hi⟩ : ∃ i, j / 32 = i := ⟨_, rfl⟩
   obtain ⟨s, hs⟩ : ∃ s, j % 32 = s := ⟨_, rfl⟩
   have hs32 : s < 32 := by omega
   have e3 : ((N : Int) + 1) / 2 = (j : Int) := by omega
   have e4 : (j : Int) / 32 = (i : Int) := by omega
   have e5 : (j : Int) % 32 = (s : Int) := by omega
   have HI := Lib.hid hi
   have HSS := Lib.hid hs
   have hN2 : N ≤ 32 * 1000000000 := by rw [← hN]; exact blen_max (Nat.le_trans hk hn) (by have := WD.z_lt (b := b) wa (Nat.le_refl n); rw [HZ.out, hZM] at this; simpa using this)
   have HN := Lib.hid hN
   have HNZ := Lib.hid hNz
   have HJ := Lib.hid hj
   have HMP := Lib.hid hMp
   clear hM0 hMp hN hNz hi hs hj
   have hi2 : i ≤ 1000000000 := by have := HI.out; have := HJ.out; omega
   go_enter Tryz.func109, Tryz.ntmps109
   go_wp2_with (first
    | (go_at_call 119; (with_reducible refine (neg_e _ b A n c l false ?_ ?_ HS.out).mono ?_); (exact wa.belw b1); (omega); rintro e w2 ⟨rfl, hb2⟩; have x2 := x1.below hb2 x1.lt; have y2 := y1.below hb2 y1.lt; have b2 := b1.trans (hb2.mono b1.size); obtain ⟨cx0, cx1⟩ := x2.c2)
    | (go_at_call 118; (with_reducible refine (mag_c _ b A n c l ?_ ?_).mono ?_); (exact wa.belw b2); (omega); rintro e w3 ⟨A1, n1, c1, rfl, h1, hb3⟩; have hn1 : n1 ≤ k := h1.m_len (by rw [← HL.out]; exact hk); rw [HM.out] at h1; have e1 : ((n1 : Int) == 0) = false := (by have h9 : n1 ≠ 0 := (fun e => by have h8 := h1.2.1; rw [e] at h8; exact absurd (digs_eq_nil.1 (List.eq_nil_of_length_eq_zero h8.symm)) (by have := HMP.out; omega)); simp; exact h9); have b3 := b2.trans (hb3.mono b2.size); have x3 := x2.below hb3 x2.lt; have y3 := y2.below hb3 y2.lt; clear cx0 cx1; obtain ⟨cx0, cx1⟩ := x3.c2)
    | (go_at_call 115; (with_reducible refine (bits_C _ b A n c l ?_ ?_).mono ?_); (exact wa.belw b3); (omega); rw [HNZ.out]; rintro e w4 ⟨rfl, hb4⟩; have b4 := b3.trans (hb4.mono b3.size); have y4 := y3.below hb4 y3.lt; have h4 := h1.belw hb4)
    | (at_make; refine wpList_make_words _ rfl _ _ rfl _ _ _ _ (i + 1) rfl rfl (by omega) (by omega) (by omega) ?_; have z5 := Blk.new w4 102 (cellsOf (List.replicate (i + 1) 0)); have fz := z5.frozen i; have cz := z5.cell i; rw [cellsOf_get (by simp)] at cz))
   have z6 : Blk (w4.alloc (.cells ((cellsOf (List.replicate (i + 1) 0)).setIfInBounds i (.int .u32 (2 ^ s % 4294967296))) 102)) w4.heap.size 102 (cellsOf (digs (2 ^ j))) := by
    obtain ⟨h5, h6⟩ := root_first HI.out HSS.out
    rw [← h5, ← cellsOf_set]
    have : (2 ^ s % 4294967296 : Int) = ((2 ^ s : Nat) : Int) := by
     have hh : ((2 : Int) ^ s) = ((2 ^ s : Nat) : Int) := by simp
     rw [hh]
     clear hh
     generalize 2 ^ s = p at h6 ⊢
     omega
    rw [this]
    exact Blk.new _ _ _
   have b6 : Below w4.heap.size w4 (w4.alloc (.cells ((cellsOf (List.replicate (i + 1) 0)).setIfInBounds i (.int .u32 (2 ^ s % 4294967296))) 102)) := (Below.refl _ _).alloc (Nat.le_refl _) _
   clear z5 fz cz
   generalize (w4.alloc (.cells ((cellsOf (List.replicate (i + 1) 0)).setIfInBounds i (.int .u32 (2 ^ s % 4294967296))) 102)) = W5 at z6 b6 ⊢
   have h6 := h4.belw b6
   have b7 := b4.trans (b6.mono b4.size)
   have y6 := y4.below b6 y4.lt
   have w6 := z6.wd_ (canon_digs (2 ^ j)).1
   have hl6 : (digs (2 ^ j)).length = i + 1 := by
    rw [← (root_first HI.out HSS.out).1]; simp
   rw [hl6] at w6
   have hst : isq M ≤ 2 ^ j := by
    have := root_start (M := M) (N := N) (by rw [← HN.out]; exact lt_blen M)
    rw [HJ.out] at this
    omega
   have hat : NewtI M (i + 1) W5 W5 (.slice (some ⟨w4.heap.size, 0, none⟩) (i + 1) (i + 1)) := ⟨_, _, _, 2 ^ j, rfl, Nat.le_refl _, ⟨w6, hst, Nat.pow_pos (by omega)⟩, brefl _⟩
   clear z6 w6 hst hl6 e3 e4 e5 b6 h4 y4 cx0 cx1 x3 y3 x2 y2
   go_loopw [6] (fun xv wr => NewtI M (i + 1) W5 wr xv) (fun xv wr => valOf wr xv)
   case atStart => exact hat
   case round =>
    obtain ⟨A5, n5, c5, X, rfl, hn5, hK, rr⟩ := hrel
    have hm5 : valOf wr (.slice A5 n5 c5) = X := by rw [hK.1.valOf, val_digs]
    obtain ⟨Y, hY⟩ : ∃ Y, (X + M / X) / 2 = Y := ⟨_, rfl⟩
    have HY := Lib.hid hY
    have HX0 := Lib.hid (show val (digs X) ≠ 0 by rw [val_digs]; have := hK.2.2; omega)
    have hm6 := h6.belw rr
    clear hY
    by_cases hXY : X ≤ Y
    ·obtain ⟨kk, hkk⟩ : ∃ kk, cmpN Y X = kk := ⟨_, rfl⟩
     have e7 : (0 ≤ kk) = True := by rw [← hkk, cmpN_le]; simpa using hXY
     have HKK := Lib.hid hkk
     have HS2 := Lib.hid (newton_end hK.2.2 hK.2.1 (by rw [HY.out]; exact hXY))
     clear hkk hXY
     have y7 := y6.below rr y6.lt
     go_wp2_with (first
      | (go_at_call 136; (with_reducible refine (divide_c _ A1 n1 c1 (digs M) ?_ ?_ A5 n5 c5 (digs X) ?_ ?_ ?_ ?_ ?_).mono ?_); (exact hm6); omega; (exact hK.1); omega; (exact canon_digs _); (exact canon_digs _); (exact HX0.out); rintro e w7 ⟨A6, n6, c6, A7, n7, c7, rfl, h7, h8, hb7⟩; rw [val_digs, val_digs] at h7 h8; have hn6 : n6 ≤ k := digs_n h7 (Nat.div_le_self _ _) hm6 hn1; have h9 := hK.1.belw hb7; have y8 := y7.below hb7 y7.lt)
      | (go_at_call 144; (with_reducible refine (plus_c _ A5 n5 c5 (digs X) ?_ ?_ A6 n6 c6 (digs (M / X)) ?_ ?_).mono ?_); (exact h9); omega; (exact h7); omega; rintro e w8 ⟨A8, n8, c8, rfl, h10, hb8⟩; rw [val_digs, val_digs] at h10; have hn8 : n8 ≤ 1099511627776 := Nat.le_trans (digs_add_n h10 h9 h7) (by omega))
      | (go_at_call 151; (with_reducible refine (down_1 _ A8 n8 c8 (X + M / X) ?_ ?_).mono ?_); (exact h10); omega; rintro e w9 ⟨A9, n9, c9, rfl, h11, hb9⟩; rw [HY.out] at h11; have hn9 : n9 ≤ 1099511627776 := digs_n h11 (by rw [← HY.out]; exact Nat.div_le_self _ _) h10 hn8)
      | (go_at_call 117; (with_reducible refine (compare_e _ A9 n9 c9 (digs Y) ?_ ?_ A5 n5 c5 (digs X) ?_ ?_ ?_ ?_ kk ?_).mono ?_); (exact h11); omega; (exact (h9.belw hb8).belw hb9); omega; (exact canon_digs _); (exact canon_digs _); (rw [val_digs, val_digs]; exact HKK.out); rintro e w10 ⟨rfl, hb10⟩)
      | (go_at_call 120; (with_reducible refine (whole_e _ false A5 n5 c5 (digs X) (isq M : Nat) ?_ ?_ ?_).mono ?_); (exact ((h9.belw hb8).belw hb9).belw hb10); omega; (rw [val_digs, HS2.out]; rfl); rintro e w11 ⟨A11, n11, c11, rfl, h12, hb11⟩; have y11 := (((y8.below hb8 y8.lt).below hb9 (Nat.lt_of_lt_of_le y8.lt hb8.size)).below hb10 (Nat.lt_of_lt_of_le y8.lt (Nat.le_trans hb8.size hb9.size))).below hb11 (Nat.lt_of_lt_of_le y8.lt (Nat.le_trans (Nat.le_trans hb8.size hb9.size) hb10.size)); obtain ⟨cy0, cy1⟩ := y11.c2; obtain ⟨fy0, fy1⟩ := y11.f2))
     have bb : Below wr.heap.size wr w11 := (((hb7.trans (hb8.mono hb7.size)).trans (hb9.mono (Nat.le_trans hb7.size hb8.size))).trans (hb10.mono (Nat.le_trans (Nat.le_trans hb7.size hb8.size) hb9.size))).trans (hb11.mono (Nat.le_trans (Nat.le_trans (Nat.le_trans hb7.size hb8.size) hb9.size) hb10.size))
     have bt := (b7.trans (rr.mono b7.size)).trans (bb.mono (Nat.le_trans b7.size rr.size))
     refine bodyPost_ret (v := .tuple #[.agg #[.bool _, .slice A11 n11 c11], .nilIface]) (by simp [results, Tryz.results109, go_sem, *] <;> first | rfl | exact ⟨rfl, rfl⟩) rfl ?_
     refine ⟨_, _, _, _, rfl, (IV.mk_ (h12.keep (kp2 ⟨_, _, y11⟩ (by decide) _ _ _ _)) rfl ?_), (bt.setCell (by dsimp only; omega) _).setCell (by dsimp only; omega) _⟩
     rw [← HR.out, ← HZ.out]
     exact HZL.out
    ·obtain ⟨kk, hkk⟩ : ∃ kk, cmpN Y X = kk := ⟨_, rfl⟩
     have e7 : (0 ≤ kk) = False := by rw [← hkk, cmpN_le]; simpa using hXY
     have HKK := Lib.hid hkk
     have HNG := Lib.hid (newton_ge (m := M) hK.2.2)
     have HLT := Lib.hid (Nat.lt_of_not_le hXY)
     have y7 := y6.below rr y6.lt
     clear hkk hXY
     go_wp2_with (first
      | (go_at_call 136; (with_reducible refine (divide_c _ A1 n1 c1 (digs M) ?_ ?_ A5 n5 c5 (digs X) ?_ ?_ ?_ ?_ ?_).mono ?_); (exact hm6); omega; (exact hK.1); omega; (exact canon_digs _); (exact canon_digs _); (exact HX0.out); rintro e w7 ⟨A6, n6, c6, A7, n7, c7, rfl, h7, h8, hb7⟩; rw [val_digs, val_digs] at h7 h8; have hn6 : n6 ≤ k := digs_n h7 (Nat.div_le_self _ _) hm6 hn1; have h9 := hK.1.belw hb7; have y8 := y7.below hb7 y7.lt)
      | (go_at_call 144; (with_reducible refine (plus_c _ A5 n5 c5 (digs X) ?_ ?_ A6 n6 c6 (digs (M / X)) ?_ ?_).mono ?_); (exact h9); omega; (exact h7); omega; rintro e w8 ⟨A8, n8, c8, rfl, h10, hb8⟩; rw [val_digs, val_digs] at h10; have hn8 : n8 ≤ 1099511627776 := Nat.le_trans (digs_add_n h10 h9 h7) (by omega))
      | (go_at_call 151; (with_reducible refine (down_1 _ A8 n8 c8 (X + M / X) ?_ ?_).mono ?_); (exact h10); omega; rintro e w9 ⟨A9, n9, c9, rfl, h11, hb9⟩; rw [HY.out] at h11; have hn9 : n9 ≤ 1099511627776 := digs_n h11 (by rw [← HY.out]; exact Nat.div_le_self _ _) h10 hn8)
      | (go_at_call 117; (with_reducible refine (compare_e _ A9 n9 c9 (digs Y) ?_ ?_ A5 n5 c5 (digs X) ?_ ?_ ?_ ?_ kk ?_).mono ?_); (exact h11); omega; (exact (h9.belw hb8).belw hb9); omega; (exact canon_digs _); (exact canon_digs _); (rw [val_digs, val_digs]; exact HKK.out); rintro e w10 ⟨rfl, hb10⟩))
     have bb : Below w7.heap.size w7 w10 := (hb8.trans (hb9.mono hb8.size)).trans (hb10.mono (Nat.le_trans hb8.size hb9.size))
     go_roundw
     case rel =>
      refine ⟨A9, n9, c9, Y, rfl, digs_n (h11.belw hb10) (Nat.le_of_lt HLT.out) hK.1 hn5, ⟨h11.belw hb10, ?_, ?_⟩, (rr.trans (hb7.mono rr.size)).trans (bb.mono (Nat.le_trans rr.size hb7.size))⟩
      ·rw [← HY.out]; exact HNG.out
      ·have := HNG.out; rw [HY.out] at this; have := isq_pos HMP.out; omega
     case measure => rw [(h11.belw hb10).valOf, hm5, val_digs]; exact HLT.out
end Go.Proofs.YtkpjhmpjihchpaaGreatDoor

/- Walks: what the integer laws lean on: short, Same; roots and texts as values. -/
namespace Go.Proofs.YtkpjhmpjihchpaaGreatDoor
open Go Go.RowKit Bn
attribute [local go_sem ↓] Go.wp_at_zero Go.wp_at_succ
def Ws (w : World) (g N : Nat) (ns : Nat → Nat) : Prop := g < w.heap.size ∧ ∀ i, i < N → ∃ b A c, w.cell? ⟨g, i * 2, none⟩ = some (.bool b) ∧ w.cell? ⟨g, i * 2 + 1, none⟩ = some (.slice A (ns i) c)
theorem Ws.belw {w w' : World} {g N : Nat} {ns : Nat → Nat} (h : Ws w g N ns) (hb : Below w.heap.size w w') : Ws w' g N ns := by
  obtain ⟨hg, h⟩ := h
  have hc := (bcell hb).1
  refine ⟨Nat.lt_of_lt_of_le hg hb.size, fun i hi => ?_⟩
  obtain ⟨b, A, c, h1, h2⟩ := h i hi
  exact ⟨b, A, c, (hc _ _ hg).trans h1, (hc _ _ hg).trans h2⟩
theorem s_same (w : World) (b : Bool) (A : Option Addr) (n c : Nat) (z : Int) (k : Nat) (h : IV w b A n c z k) (b' : Bool) (A' : Option Addr) (n' c' : Nat) (z' : Int) (k' : Nat) (h' : IV w b' A' n' c' z' k') (hz : z = z') (hk : k ≤ 1000000000) :
  Calls Tryz.prog 36 #[.agg #[.bool b, .slice A n c], .agg #[.bool b', .slice A' n' c']] w (RetV w (.bool true)) := by
 subst hz
 obtain ⟨rfl, wa, hn⟩ := h
 obtain ⟨rfl, wb, _⟩ := h'
 have hnn : n' = n := by rw [wa.2.1, wb.2.1]
 subst hnn
 obtain ⟨bb, hbb⟩ : ∃ bb, (wh z).neg = bb := ⟨_, rfl⟩
 obtain ⟨l, hl⟩ : ∃ l, (wh z).mag = l := ⟨_, rfl⟩
 rw [hl] at wa wb
 rw [hbb]
 have HA := Lib.hid wa
 have HB := Lib.hid wb
 clear wa wb hbb hl
 have x0 : Blk ((w.alloc (.cells #[.bool bb, .slice A n' c] 46)).alloc (.cells #[.bool bb, .slice A' n' c'] 46)) w.heap.size 46 #[.bool bb, .slice A n' c] := (blkAt w _ _ rfl).alloc _
 have x1 : Blk ((w.alloc (.cells #[.bool bb, .slice A n' c] 46)).alloc (.cells #[.bool bb, .slice A' n' c'] 46)) (w.heap.size + 1) 46 #[.bool bb, .slice A' n' c'] := (blkAt _ _ _ (by simp))
 have b0 : Below w.heap.size w ((w.alloc (.cells #[.bool bb, .slice A n' c] 46)).alloc (.cells #[.bool bb, .slice A' n' c'] 46)) := ((Below.refl _ _).alloc (Nat.le_refl _) _).alloc (by simp) _
 go_enter Tryz.func36, Tryz.ntmps36
 go_wp2_with fail
 generalize ((w.alloc (.cells #[.bool bb, .slice A n' c] 46)).alloc (.cells #[.bool bb, .slice A' n' c'] 46)) = W0 at x0 x1 b0 ⊢
 go_loopw [23] (fun iv wr => ∃ (i q : Nat), i ≤ n' ∧ iv = .int .i64 (i : Nat) ∧ wr = W0.drewN q) (fun iv _ => n' - (intOf iv).toNat)
 case atStart => exact ⟨0, 0, Nat.zero_le _, rfl, rfl⟩
 case round =>
  obtain ⟨i, q, hi, rfl, rfl⟩ := hrel
  by_cases hlt : i < n'
  ·obtain ⟨g, o, rfl, hc1⟩ := (HA.out.belw b0).at_ (by omega)
   obtain ⟨g', o', rfl, hc2⟩ := (HB.out.belw b0).at_ (by omega)
   have h1 := hc1 i hlt
   have h2 := hc2 i hlt
   obtain ⟨cx0, cx1⟩ := x0.c2
   obtain ⟨cy0, cy1⟩ := x1.c2
   have hi0 : (0 : Int) ≤ (i : Int) := by omega
   have hi1 : (i : Int) < (n' : Int) := by omega
   generalize wd l i = x at h1 h2
   clear hc1 hc2
   go_wp2_with fail
   go_quiet (fail)
   go_wp2
   go_roundw
   case rel => exact ⟨i + 1, _, by omega, by go_num, rfl⟩
   case measure => simp [intOf]; omega
  ·go_wp2
   go_ret
   exact retB rfl (by repeat (first | exact b0 | refine below_drewN ?_ _))
theorem i_root (w : World) (b : Bool) (A : Option Addr) (n c : Nat) (z : Int) (k : Nat) (h : IZ w b A n c z k) (hk : k ≤ 1000000000) (v : Value) (hv : rootE z = v) (y : Int) (hy : rootZ z = y) :
    Calls Tryz.prog 109 #[.agg #[.bool b, .slice A n c]] w (RetIe w v y k) := by
  subst hv hy
  obtain ⟨l, h1, rfl, h3⟩ := h
  exact root_C w b A n c l k h1 h3 hk
theorem i_bits (w : World) (b : Bool) (A : Option Addr) (n c : Nat) (z : Int) (k : Nat) (h : IZ w b A n c z k) (hk : k ≤ 1000000000) :
    Calls Tryz.prog 115 #[.agg #[.bool b, .slice A n c]] w (RetV w (.int .i64 (blen z.natAbs : Nat))) := by
  obtain ⟨l, h1, rfl, h3⟩ := h
  exact bits_C w b A n c l h1 (by omega)
theorem r01_bits (w : World) (b : Bool) (A : Option Addr) (n c : Nat) (z : Int) (k : Nat) (h : IZ w b A n c z k) (hk : k ≤ 1000000000) :
    Calls Tryz.prog 116 #[.agg #[.bool b, .slice A n c]] w (RetV w (.int .i64 (blen z.natAbs : Nat))) := by
  obtain ⟨l, h1, rfl, h3⟩ := h
  exact r_bits_C w b A n c l h1 (by omega)
end Go.Proofs.YtkpjhmpjihchpaaGreatDoor

/- Walks: the opening of the integer laws. -/
namespace Go.Proofs.YtkpjhmpjihchpaaGreatDoor
open Go Go.RowKit Bn
attribute [local go_sem ↓] Go.wp_at_zero Go.wp_at_succ
theorem IZ.short {w : World} {b : Bool} {A : Option Addr} {n c k : Nat} {z : Int} (h : IZ w b A n c z k) (hs : n ≤ 30) : IZ w b A n c z 30 := by
  obtain ⟨l, h1, h2, _⟩ := h
  exact ⟨l, h1, h2, hs⟩
end Go.Proofs.YtkpjhmpjihchpaaGreatDoor

/- A region that draws its order, walked operation by operation: lists of words too. -/
namespace Go.Proofs.YtkpjhmpjihchpaaGreatDoor
open Go Go.RowKit Bn
def VL (l : List Nat) (k : Nat) : Value → World → Prop := fun v w => ∃ A n c, v = .slice A n c ∧ Wd w A n c l ∧ n ≤ k
theorem stL (l : List Nat) (k : Nat) : Stab (VL l k) := fun _ _ _ ⟨A, n, c, e, h, hn⟩ hk => ⟨A, n, c, e, h.keep hk, hn⟩
end Go.Proofs.YtkpjhmpjihchpaaGreatDoor

/- A region that draws its order and stores to nothing: slots that it writes may be read ahead of that. -/
namespace Go.Proofs.YtkpjhmpjihchpaaGreatDoor
open Go Go.RowKit Bn
def LinV (ops : Array Oper) (fr : (Nat → Value) → Act) (R : Nat → Value → World → Prop) (ow : List Own) (B : Nat) (W : World) (x0 : Nat → Value) (L : Array Bool) (a : Act) (w : World) : Prop :=
  ∃ x, a = fr x ∧ (Kp W w ∧ Below B W w) ∧ (∀ i, L.getD i false = true → R i (x i) w) ∧ (∀ i, L.getD i false = false → x i = x0 i) ∧
  (∀ i o, ops[i]? = some o → L.getD i false = true → ∀ e ∈ o.after, Region.binds .any e = true → L.getD e.on false = true) ∧
  (∀ f ∈ ow, Blk w f.g f.T f.Z)
theorem wp_region_val {P : Program} {ops : Array Oper} {Q : Exit → Act → World → Prop} {fr : (Nat → Value) → Act} {R : Nat → Value → World → Prop} {ow : List Own} {B : Nat} {id : Nat} {w : World} {x0 : Nat → Value} (hm : P.follows .mixedOrders = true)
    (hput : ∀ i o, ops[i]? = some o → ∀ x v, (fr x).put o.dst v = fr (upd x i v))
    (hac : ∀ i o, ops[i]? = some o → ∀ e ∈ o.after, Region.binds .any e = true → e.on < i)
    (hR : ∀ i v w w', R i v w → Kp w w' → R i v w')
    (hB : B ≤ w.heap.size)
    (hO : ∀ f ∈ ow, Blk w f.g f.T f.Z)
    (hstep : ∀ i o, ops[i]? = some o → ∀ x wq, Kp w wq → (∀ f ∈ ow, Blk wq f.g f.T f.Z) → (∀ e ∈ o.after, Region.binds .any e = true → R e.on (x e.on) wq) →
      (∀ j o', ops[j]? = some o' → (∃ e ∈ o'.after, Region.binds .any e = true ∧ e.on = i) → x j = x0 j) → ∀ K' : Act → World → Prop, Shut (∀ v w', R i v w' → Below wq.heap.size wq w' → K' ((fr x).put o.dst v) w') →
      if Region.wanted o (yielded ops (fr x).tmps) = true then Oper.wp P o (fr x) wq K' Q else K' ((fr x).put o.dst undef) wq)
    (hend : ∀ x w', Kp w w' → Below B w w' → w.heap.size ≤ w'.heap.size → (∀ f ∈ ow, Blk w' f.g f.T f.Z) → (∀ i, i < ops.size → R i (x i) w') → Q .normal (fr x) w') :
    (Code.region id ops true).wp P Q (fr x0) w := by
  refine wp_region_any hm (wpAny_inv (fun L a w' => w.heap.size ≤ w'.heap.size ∧ LinV ops fr R ow B w x0 L a w') ?_ ?_ _ _ _ _ (by simp) ?_ ?_)
  · rintro L a w1 i hs hi ⟨hsz, x, rfl, ⟨hkW, hb⟩, hr, hx0, hcl, how⟩
    obtain ⟨hun, o, ho, hall⟩ := mem_ready.1 hi
    have hlt : i < L.size := by
      rcases Nat.lt_or_ge i L.size with h | h
      · exact h
      · rw [Array.getD_eq_getD_getElem?, Array.getElem?_eq_none h] at hun; cases hun
    have hunf : L.getD i false = false := by
      rw [Array.getD_eq_getD_getElem?, Array.getElem?_eq_getElem hlt] at hun ⊢; exact hun
    have hdep : ∀ e ∈ o.after, Region.binds .any e = true → R e.on (x e.on) w1 := fun e he hbd => hr _ (hall e he hbd)
    have hcl' : ∀ i' o', ops[i']? = some o' → (L.setIfInBounds i true).getD i' false = true → ∀ e ∈ o'.after, Region.binds .any e = true → (L.setIfInBounds i true).getD e.on false = true := by
      intro i' o' ho' hl e he hbd
      rw [getD_set hlt] at hl ⊢
      by_cases h : i' = i
      · subst h; rw [ho] at ho'; injection ho' with ho'; subst ho'
        rw [hall e he hbd]; simp
      · have : L.getD i' false = true := by simpa [h] using hl
        rw [hcl i' o' ho' this e he hbd]; simp
    have hlate : ∀ j o', ops[j]? = some o' → (∃ e ∈ o'.after, Region.binds .any e = true ∧ e.on = i) → x j = x0 j := by
      intro j o' ho' ⟨e, he, hbd, hea⟩
      apply hx0
      cases h : L.getD j false
      · rfl
      · have := hcl j o' ho' h e he hbd
        rw [hea, hunf] at this; cases this
    refine wpOp_step ho fun K' hK => ?_
    refine hstep i o ho x w1 hkW how hdep hlate K' (fun v w' hRv hbw => hK _ _ ?_)
    have hkp : Kp w1 w' := (Kp.refl w1).below hbw
    refine ⟨Nat.le_trans hsz hbw.size, upd x i v, hput i o ho x v, ⟨hkW.trans hkp, hb.trans (hbw.mono (Nat.le_trans hB hsz))⟩, fun j hj => ?_, fun j hj => ?_, hcl', fun f hfo => (how f hfo).below hbw (how f hfo).lt⟩
    · by_cases h : j = i
      · subst h; rw [upd_same]; exact hRv
      · rw [upd_ne _ _ h]; rw [getD_set hlt] at hj; exact hR _ _ _ _ (hr j (by simpa [h] using hj)) hkp
    · rw [getD_set hlt] at hj
      by_cases h : j = i
      · subst h; simp at hj
      · rw [upd_ne _ _ h]; exact hx0 j (by simpa [h] using hj)
  · rintro L a w1 hs hr0 ⟨hsz, x, rfl, ⟨hkW, hb⟩, hr, hx0, hcl, how⟩
    have hallL : ∀ i, i < ops.size → L.getD i false = true := by
      intro i
      induction i using Nat.strongRecOn with
      | ind i ih =>
        intro hi
        cases h : L.getD i false
        · exfalso
          have : i ∈ Region.ready .any ops L := by
            refine mem_ready.2 ⟨?_, ops[i], Array.getElem?_eq_getElem hi, fun e he hbd => ?_⟩
            · rw [Array.getD_eq_getD_getElem?, Array.getElem?_eq_getElem (by omega)] at h ⊢; exact h
            · have h1 := hac i _ (Array.getElem?_eq_getElem hi) e he hbd
              exact ih e.on h1 (by omega)
          rw [hr0] at this; cases this
        · rfl
    exact hend x w1 hkW hb hsz how (fun i hi => hr i (hallL i hi))
  · simp
  · have hz : ∀ j, (Array.replicate ops.size false).getD j false = false := by
      intro j; rw [Array.getD_eq_getD_getElem?, Array.getElem?_replicate]; split <;> rfl
    refine ⟨Nat.le_refl _, x0, rfl, ⟨(Kp.refl w).drew, (Below.refl B w).drew⟩, fun i h => ?_, fun i _ => rfl, fun i o _ h => ?_, fun f hfo => (hO f hfo).drew⟩ <;> rw [hz] at h <;> cases h
end Go.Proofs.YtkpjhmpjihchpaaGreatDoor

/- Walks: the reference's Div where the rest is not 0. -/
namespace Go.Proofs.YtkpjhmpjihchpaaGreatDoor
open Go Go.RowKit Bn
attribute [local go_sem ↓] Go.wp_at_zero Go.wp_at_succ
theorem r_div_R (w : World) (b : Bool) (A : Option Addr) (n c : Nat) (l : List Nat) (wa : Wd w A n c l) (hn : n ≤ 1000000000000) (b' : Bool) (A' : Option Addr) (n' c' : Nat) (l' : List Nat) (wb : Wd w A' n' c' l') (hn' : n' ≤ 1000000000000) (h0 : WD.z ⟨b', l'⟩ ≠ 0) (hr0 : WD.z ⟨b, l⟩ % WD.z ⟨b', l'⟩ ≠ 0) :
    Calls Tryz.prog 111 #[.agg #[.bool b, .slice A n c], .agg #[.bool b', .slice A' n' c']] w (RetDivR w (WD.z ⟨b, l⟩ / WD.z ⟨b', l'⟩) (WD.z ⟨b, l⟩ % WD.z ⟨b', l'⟩)) := by
  have HL := Lib.hid wa.2.1
  have HL' := Lib.hid wb.2.1
  obtain ⟨s0, hs0'⟩ : ∃ s, (WD.z ⟨b', l'⟩).sign = s := ⟨_, rfl⟩
  have es0 : ((s0 : Int) == 0) = false := by simp; rintro rfl; exact h0 (Int.sign_eq_zero_iff_zero.1 hs0')
  have HSG := Lib.hid hs0'
  clear hs0'
  have hd0 : val (WD.m ⟨b, l⟩) % val (WD.m ⟨b', l'⟩) ≠ 0 := by
    rw [← z_nat ⟨b, l⟩, ← z_nat ⟨b', l'⟩]
    exact fun e => hr0 (Int.emod_eq_zero_of_dvd (Int.natAbs_dvd_natAbs.1 (Nat.dvd_of_mod_eq_zero e)))
  rw [WD.z_eq] at h0 ⊢
  rw [WD.z_eq ⟨b', l'⟩]
  have hv2 : val (WD.m ⟨b', l'⟩) ≠ 0 := by intro e; rw [e] at h0; exact h0 (by cases (WD.s ⟨b', l'⟩) <;> rfl)
  obtain ⟨sa, hsa⟩ : ∃ s, WD.s ⟨b, l⟩ = s := ⟨_, rfl⟩
  obtain ⟨sb, hsb⟩ : ∃ s, WD.s ⟨b', l'⟩ = s := ⟨_, rfl⟩
  rw [hsa, hsb]
  obtain ⟨x, hx⟩ : ∃ x, val (WD.m ⟨b, l⟩) = x := ⟨_, rfl⟩
  obtain ⟨y, hy⟩ : ∃ y, val (WD.m ⟨b', l'⟩) = y := ⟨_, rfl⟩
  rw [hx, hy]
  rw [hx, hy] at hd0
  have HS := Lib.hid (And.intro hsa hsb)
  have HX := Lib.hid (And.intro hx hy)
  have HY := Lib.hid (show y ≠ 0 from hy ▸ hv2)
  have HR0 := Lib.hid hd0
  clear hsa hsb hx hy hv2 h0 hr0 hd0
  go_enter Tryz.func111, Tryz.ntmps111
  go_wp2_with fail
  have b0 : Below w.heap.size w ((((w.alloc (.cells #[.bool b, .slice A n c] 46)).alloc (.cells #[.bool b', .slice A' n' c'] 46)).alloc (.cells #[.bool false, .slice none 0 0] 46)).alloc (.cells #[.bool false, .slice none 0 0] 46)) := (((((Below.refl _ _).alloc (Nat.le_refl _) _).alloc (by simp) _).alloc (by simp; omega) _).alloc (by simp; omega) _)
  generalize hW0 : ((((w.alloc (.cells #[.bool b, .slice A n c] 46)).alloc (.cells #[.bool b', .slice A' n' c'] 46)).alloc (.cells #[.bool false, .slice none 0 0] 46)).alloc (.cells #[.bool false, .slice none 0 0] 46)) = W0 at b0 ⊢
  have c00 : W0.cell? ⟨w.heap.size, 0, none⟩ = some (.bool b) := by subst hW0; simp [go_sem]
  have f00 : W0.frozen? ⟨w.heap.size, 0, none⟩ = false := by subst hW0; simp [go_sem]
  have c01 : W0.cell? ⟨w.heap.size, 1, none⟩ = some (.slice A n c) := by subst hW0; simp [go_sem]
  have f01 : W0.frozen? ⟨w.heap.size, 1, none⟩ = false := by subst hW0; simp [go_sem]
  have c10 : W0.cell? ⟨w.heap.size + 1, 0, none⟩ = some (.bool b') := by subst hW0; simp [go_sem]
  have f10 : W0.frozen? ⟨w.heap.size + 1, 0, none⟩ = false := by subst hW0; simp [go_sem]
  have c11 : W0.cell? ⟨w.heap.size + 1, 1, none⟩ = some (.slice A' n' c') := by subst hW0; simp [go_sem]
  have f11 : W0.frozen? ⟨w.heap.size + 1, 1, none⟩ = false := by subst hW0; simp [go_sem]
  have c20 : W0.cell? ⟨w.heap.size + 1 + 1, 0, none⟩ = some (.bool false) := by subst hW0; simp [go_sem]
  have f20 : W0.frozen? ⟨w.heap.size + 1 + 1, 0, none⟩ = false := by subst hW0; simp [go_sem]
  have c21 : W0.cell? ⟨w.heap.size + 1 + 1, 1, none⟩ = some (.slice none 0 0) := by subst hW0; simp [go_sem]
  have f21 : W0.frozen? ⟨w.heap.size + 1 + 1, 1, none⟩ = false := by subst hW0; simp [go_sem]
  have c30 : W0.cell? ⟨w.heap.size + 1 + 1 + 1, 0, none⟩ = some (.bool false) := by subst hW0; simp [go_sem]
  have f30 : W0.frozen? ⟨w.heap.size + 1 + 1 + 1, 0, none⟩ = false := by subst hW0; simp [go_sem]
  have c31 : W0.cell? ⟨w.heap.size + 1 + 1 + 1, 1, none⟩ = some (.slice none 0 0) := by subst hW0; simp [go_sem]
  have f31 : W0.frozen? ⟨w.heap.size + 1 + 1 + 1, 1, none⟩ = false := by subst hW0; simp [go_sem]
  have x0 : Box W0 w.heap.size 46 := by subst hW0; exact (((boxAt _ _ _ (by simp)).alloc _).alloc _).alloc _
  have x1 : Box W0 (w.heap.size + 1) 46 := by subst hW0; exact ((boxAt _ _ _ (by simp)).alloc _).alloc _
  have x2 : Box W0 (w.heap.size + 1 + 1) 46 := by subst hW0; exact (boxAt _ _ _ (by simp)).alloc _
  have x3 : Box W0 (w.heap.size + 1 + 1 + 1) 46 := by subst hW0; exact boxAt _ _ _ (by simp)
  have hm0 : Made (w.heap.size + 1 + 1) (w.heap.size + 1 + 1 + 1 + 1) 2 W0 := by subst hW0; exact made2 (by simp) rfl
  have hs0 : w.heap.size + 1 + 1 + 1 + 1 ≤ W0.heap.size := by subst hW0; simp
  have z0 : Blk W0 w.heap.size 46 #[.bool b, .slice A n c] := by subst hW0; exact ((((blkAt _ _ _ (by simp)).alloc _).alloc _).alloc _)
  have z1 : Blk W0 (w.heap.size + 1) 46 #[.bool b', .slice A' n' c'] := by subst hW0; exact (((blkAt _ _ _ (by simp)).alloc _).alloc _)
  have z2 : Blk W0 (w.heap.size + 1 + 1) 46 #[.bool false, .slice none 0 0] := by subst hW0; exact ((blkAt _ _ _ (by simp)).alloc _)
  have z3 : Blk W0 (w.heap.size + 1 + 1 + 1) 46 #[.bool false, .slice none 0 0] := by subst hW0; exact (blkAt _ _ _ (by simp))
  clear hW0
  have wa := wa.belw b0
  have wb := wb.belw b0
  have r0 : Below W0.heap.size W0 W0 := brefl _
  go_wp2_with (first
    | (go_at_call 92; (with_reducible refine (r_sign_x _ b' A' n' c' l' s0 ?_ ?_ ?_).mono ?_); (exact wb); (omega); (exact HSG.out); rintro e w1 ⟨rfl, hb1⟩; have r1 := bnext r0 hb1; replace wa := wa.belw hb1; replace wb := wb.belw hb1; (try clear sc sf sr sz); obtain ⟨⟨sc, sf⟩, sr, sz⟩ := Seen.of (by omega) hs0 hm0 r1))
  (try clear sc sf sr sz)
  have hRB : w.heap.size + 1 + 1 ≤ w.heap.size + 1 + 1 + 1 + 1 := by omega
  go_region_held3 (fun w' => Sees (w.heap.size + 1 + 1) W0 w') (first | exact Sees.of (Nat.le_trans hRB hs0) (by assumption) | exact Sees.of (Nat.le_trans hRB hs0) (below_drewN (by assumption) _))
    (first
      | (go_at_call 134; (with_reducible refine (r_mag_c _ b A n c l ?_ ?_).mono ?_); (exact wa); (omega); rintro e w2 ⟨A2, n2, c2, rfl, h2, hb2⟩; replace hb2 := bnext (below_drewN (brefl _) 1) hb2; have r2 := bnext r1 hb2; replace wa := wa.belw hb2; replace wb := wb.belw hb2)
      | (go_at_call 134; (with_reducible refine (r_mag_c _ b' A' n' c' l' ?_ ?_).mono ?_); (exact wb); (omega); rintro e w3 ⟨A3, n3, c3, rfl, h3, hb3⟩; have r3 := bnext r2 hb3; replace wa := wa.belw hb3; replace wb := wb.belw hb3; replace h2 := h2.belw hb3)
      | (go_at_call 154; (with_reducible refine (r_divide_e _ A2 n2 c2 (WD.m ⟨b, l⟩) ?_ ?_ A3 n3 c3 (WD.m ⟨b', l'⟩) ?_ ?_ x y ?_ ?_ ?_).mono ?_); (exact h2); (exact h2.m_len (by rw [← HL.out]; exact hn)); (exact h3); (exact h3.m_len (by rw [← HL'.out]; exact hn')); (exact HX.out.1); (exact HX.out.2); (exact HY.out); rintro e w4 ⟨A4, n4, c4, A5, n5, c5, rfl, h4, h5, hb4⟩; have r4 := bnext r3 hb4; replace wa := wa.belw hb4; replace wb := wb.belw hb4; replace h2 := h2.belw hb4; replace h3 := h3.belw hb4))
  obtain ⟨⟨sc, sf⟩, sr, sz⟩ := Seen.of (by omega) hs0 hm0 r4
  clear hRB
  have hn4 : n4 ≤ 1000000000000 := by
    rw [h4.2.1]; exact dlen (Nat.lt_of_le_of_lt (Nat.div_le_self _ _) (HX.out.1 ▸ h2.vlt (Nat.le_refl _))) (h2.m_len (by rw [← HL.out]; exact hn))
  have hn5 : n5 ≤ 1000000000000 := by
    rw [h5.2.1]; exact dlen (Nat.lt_of_le_of_lt (Nat.mod_le _ _) (HX.out.1 ▸ h2.vlt (Nat.le_refl _))) (h2.m_len (by rw [← HL.out]; exact hn))
  have hn50 : n5 ≠ 0 := by
    intro e
    have h9 := h5.2.1
    rw [e] at h9
    exact HR0.out (digs_eq_nil.1 (List.eq_nil_of_length_eq_zero h9.symm))
  have e5 : decide (0 < n5) = true := by simp; omega
  cases sa
  · go_wp2_with (first
      | (go_at_call 135; (with_reducible refine (r_neg_e _ b A n c l false ?_ ?_ ?_).mono ?_); (exact wa); (omega); (exact HS.out.1); rintro e w5 ⟨rfl, hb5⟩; have r5 := bnext r4 hb5; replace wa := wa.belw hb5; replace wb := wb.belw hb5; replace h2 := h2.belw hb5; replace h3 := h3.belw hb5; replace h4 := h4.belw hb5; replace h5 := h5.belw hb5; (try clear sc sf sr sz); obtain ⟨⟨sc, sf⟩, sr, sz⟩ := Seen.of (by omega) hs0 hm0 r5))
    have HZ := Lib.hid (div_plain (sa := false) (sb := sb) (x := x) HY.out (.inl rfl))
    (try clear sc sf sr sz)
    have hRB : w.heap.size + 1 + 1 ≤ w.heap.size + 1 + 1 + 1 + 1 := by omega
    go_region_held3 (fun w' => Sees (w.heap.size + 1 + 1) W0 w') (first | exact Sees.of (Nat.le_trans hRB hs0) (by assumption) | exact Sees.of (Nat.le_trans hRB hs0) (below_drewN (by assumption) _) | exact (Sees.set (Sees.of (Nat.le_trans hRB hs0) (by assumption)) (by simp)) | exact (Sees.set (Sees.set (Sees.of (Nat.le_trans hRB hs0) (by assumption)) (by simp)) (by simp)) | exact (Sees.set (Sees.set (Sees.set (Sees.of (Nat.le_trans hRB hs0) (by assumption)) (by simp)) (by simp)) (by simp)) | exact (Sees.set (Sees.set (Sees.set (Sees.set (Sees.of (Nat.le_trans hRB hs0) (by assumption)) (by simp)) (by simp)) (by simp)) (by simp)))
      (first
        | (go_at_call 135; (with_reducible refine (r_neg_e _ b A n c l false ?_ ?_ ?_).mono ?_); (exact wa); (omega); (exact HS.out.1); rintro e w6 ⟨rfl, hb6⟩; replace hb6 := bnext (below_drewN (brefl _) 1) hb6; have r6 := bnext r5 hb6; replace wa := wa.belw hb6; replace wb := wb.belw hb6; replace h2 := h2.belw hb6; replace h3 := h3.belw hb6; replace h4 := h4.belw hb6; replace h5 := h5.belw hb6)
        | (go_at_call 135; (with_reducible refine (r_neg_e _ b' A' n' c' l' sb ?_ ?_ ?_).mono ?_); (exact wb); (omega); (exact HS.out.2); rintro e w7 ⟨rfl, hb7⟩; have r7 := bnext r6 hb7; replace wa := wa.belw hb7; replace wb := wb.belw hb7; replace h2 := h2.belw hb7; replace h3 := h3.belw hb7; replace h4 := h4.belw hb7; replace h5 := h5.belw hb7)
        | (go_at_call 133; (with_reducible refine (r_form_e _ sb A4 n4 c4 (digs (x / y)) (sgn false x / sgn sb y) ?_ ?_ ?_).mono ?_); (exact h4); (omega); (rw [HZ.out.1, val_digs]; cases sb <;> rfl); rintro e w8 ⟨A8, n8, c8, rfl, h8, hb8⟩; have r8 := bnext r7 hb8; replace wa := wa.belw hb8; replace wb := wb.belw hb8; replace h2 := h2.belw hb8; replace h3 := h3.belw hb8; replace h4 := h4.belw hb8; replace h5 := h5.belw hb8)
        | (go_at_call 133; (with_reducible refine (r_form_e _ false A5 n5 c5 (digs (x % y)) (sgn false x % sgn sb y) ?_ ?_ ?_).mono ?_); (exact h5); (omega); (rw [HZ.out.2, val_digs]; rfl); rintro e w9 ⟨A9, n9, c9, rfl, h9, hb9⟩; have r9 := bnext r8 hb9; replace wa := wa.belw hb9; replace wb := wb.belw hb9; replace h2 := h2.belw hb9; replace h3 := h3.belw hb9; replace h4 := h4.belw hb9; replace h5 := h5.belw hb9; replace h8 := h8.belw hb9; obtain ⟨⟨sc, sf⟩, sr, sz⟩ := Seen.of (by omega) hs0 hm0 r9))
    clear hRB
    go_wp2_with fail
    refine bodyPost_ret (v := .tuple #[.agg #[.bool _, .slice A8 n8 c8], .agg #[.bool _, .slice A9 n9 c9], .int .i64 0]) (by simp [results, Tryz.results111, go_sem, sr]; first | rfl | exact ⟨rfl, rfl⟩) rfl ?_
    have y2 := x2.below r9
    have y3 := x3.below r9
    refine ⟨A8, n8, c8, A9, n9, c9, rfl, ?_, ?_, ?_⟩
    · exact h8.keep (kp4 y2 y3 (by decide) (by decide) _ _ _ _ _ _ _ _)
    · exact h9.keep (kp4 y2 y3 (by decide) (by decide) _ _ _ _ _ _ _ _)
    · exact ((((b0.trans (r9.mono b0.size)).setCell (by dsimp only; omega) _).setCell (by dsimp only; omega) _).setCell (by dsimp only; omega) _).setCell (by dsimp only; omega) _
  · go_wp2_with (first
      | (go_at_call 135; (with_reducible refine (r_neg_e _ b A n c l true ?_ ?_ ?_).mono ?_); (exact wa); (omega); (exact HS.out.1); rintro e w5 ⟨rfl, hb5⟩; have r5 := bnext r4 hb5; replace wa := wa.belw hb5; replace wb := wb.belw hb5; replace h2 := h2.belw hb5; replace h3 := h3.belw hb5; replace h4 := h4.belw hb5; replace h5 := h5.belw hb5; (try clear sc sf sr sz); obtain ⟨⟨sc, sf⟩, sr, sz⟩ := Seen.of (by omega) hs0 hm0 r5))
    have r5z0 := z0.b r5
    have r5z1 := z1.b r5
    have r5z2 := z2.b r5
    have r5z3 := z3.b r5
    have bw5 := b0.trans (r5.mono b0.size)
    have hyl : val (WD.m ⟨b', l'⟩) = y := HX.out.2
    refine wp_region_val (B := w.heap.size) (fr := fun xf => ⟨List.toArray (.agg #[.bool b, .slice A n c] :: .agg #[.bool b', .slice A' n' c'] :: .pointer (some ⟨w.heap.size, 0, none⟩) :: .pointer (some ⟨w.heap.size + 1, 0, none⟩) :: .pointer (some ⟨w.heap.size + 1 + 1, 0, none⟩) :: .pointer (some ⟨w.heap.size + 1 + 1 + 1, 0, none⟩) :: .int .i64 0 :: xf 7 :: xf 8 :: .agg #[.bool b', .slice A' n' c'] :: .int .i64 s0 :: .bool false :: undef :: undef :: .tuple #[.slice A4 n4 c4, .slice A5 n5 c5] :: .agg #[.bool b, .slice A n c] :: .slice A2 n2 c2 :: .agg #[.bool b', .slice A' n' c'] :: .slice A3 n3 c3 :: .tuple #[.slice A4 n4 c4, .slice A5 n5 c5] :: .slice A4 n4 c4 :: .slice A5 n5 c5 :: .agg #[.bool b, .slice A n c] :: .bool true :: .bool true :: .slice A5 n5 c5 :: .int .i64 (n5 : Nat) :: .bool true :: .bool true :: xf 0 :: xf 1 :: xf 2 :: xf 3 :: xf 4 :: xf 5 :: xf 6 :: undef :: undef :: undef :: undef :: undef :: undef :: undef :: undef :: undef :: []), []⟩) (R := fun i => List.getD ((PEq (.slice A4 n4 c4)) :: (VL [1] 1) :: (VL (digs (x / y + 1)) 1000000000002) :: (PEq (.agg #[.bool b', .slice A' n' c'])) :: (VL (WD.m ⟨b', l'⟩) 1000000000000) :: (PEq (.slice A5 n5 c5)) :: (VL (digs (y - x % y)) 1000000000000) :: (VL (digs (x / y + 1)) 1000000000002) :: (VL (digs (y - x % y)) 1000000000000) :: []) i (fun _ _ => True)) (ow := [⟨w.heap.size, 9, 0, 46, #[.bool b, .slice A n c], CAny⟩, ⟨w.heap.size + 1, 9, 0, 46, #[.bool b', .slice A' n' c'], CAny⟩, ⟨w.heap.size + 1 + 1, 9, 0, 46, #[.bool false, .slice none 0 0], CAny⟩, ⟨w.heap.size + 1 + 1 + 1, 9, 0, 46, #[.bool false, .slice none 0 0], CAny⟩]) (x0 := (upd (upd (fun _ => undef) 7 (.slice A4 n4 c4)) 8 (.slice A5 n5 c5))) (by kernel_rfl)
      (each_of ⟨fun _ _ => rfl, fun _ _ => rfl, fun _ _ => rfl, fun _ _ => rfl, fun _ _ => rfl, fun _ _ => rfl, fun _ _ => rfl, fun _ _ => rfl, fun _ _ => rfl, trivial⟩) (each_of (acyc_from _ 0 (by kernel_rfl))) (AllStab.get _ ⟨stEq _, stL _ _, stL _ _, stEq _, stL _ _, stEq _, stL _ _, stL _ _, stL _ _, trivial⟩)
      bw5.size (List.forall_mem_cons.2 ⟨r5z0, List.forall_mem_cons.2 ⟨r5z1, List.forall_mem_cons.2 ⟨r5z2, List.forall_mem_cons.2 ⟨r5z3, fun _ h => nomatch h⟩⟩⟩⟩)
      (each_of ⟨?_, ?_, ?_, ?_, ?_, ?_, ?_, ?_, ?_, trivial⟩) ?_
    · exact fun xf wq hk how hd hx K hK => by
        have e7 : xf 7 = .slice A4 n4 c4 := (hx 7 _ rfl ⟨⟨0, .phase⟩, by simp, rfl, rfl⟩).trans (by simp [upd])
        (try dsimp only); simp only [e7]
        go_simp
        have hz := hK.out (.slice A4 n4 c4) _ rfl (brefl _)
        simp only [e7] at hz
        exact hz
    · exact fun xf wq hk how hd hx K hK => by
        (try dsimp only)
        go_simp
        exact hK.out _ _ ⟨_, _, _, rfl, (show Blk _ wq.heap.size 102 (cellsOf [1]) from blkAt wq _ _ rfl).wdN (by intro u hu; simp at hu; omega) rfl, Nat.le_refl _⟩ ((brefl _).alloc (Nat.le_refl _) _)
    · exact fun xf wq hk how hd hx K hK => by
        have dq0 : xf 0 = .slice A4 n4 c4 := hd ⟨0, .data⟩ (by simp) rfl
        obtain ⟨A6, n6, c6, dq1, h6, hn6⟩ : VL [1] 1 (xf 1) wq := hd ⟨1, .data⟩ (by simp) rfl
        (try dsimp only); (try simp only [dq0, dq1])
        go_simp
        go_at_call 147
        (with_reducible refine (r_plus_c _ A4 n4 c4 (digs (x / y)) ?_ ?_ A6 n6 c6 [1] ?_ ?_).mono ?_); (exact h4.keep hk); omega; (exact h6); omega; rintro e wr ⟨A7, n7, c7, rfl, h7, hbr⟩
        rw [val_digs, show val [1] = 1 from rfl] at h7
        have hn7 : n7 ≤ 1000000000002 := by
          rw [h7.2.1]
          refine Nat.le_trans (length_digs_le (k := n4 + 1) ?_) (by omega)
          have h9 := h4.vlt (Nat.le_refl _)
          rw [val_digs] at h9
          have h10 := pow_pos' n4
          rw [Nat.pow_succ]; omega
        have hz := hK.out _ _ ⟨A7, n7, c7, rfl, h7, hn7⟩ hbr
        simp only [dq0, dq1] at hz
        exact hz
    · exact fun xf wq hk how hd hx K hK => by
        have yb : Blk wq (w.heap.size + 1) 46 #[.bool b', .slice A' n' c'] := how _ (List.Mem.tail _ (List.Mem.head _))
        obtain ⟨hcl0, hcl1⟩ := yb.c2
        (try dsimp only)
        go_simp
        exact hK.out (.agg #[.bool b', .slice A' n' c']) _ rfl (brefl _)
    · exact fun xf wq hk how hd hx K hK => by
        have dq3 : xf 3 = .agg #[.bool b', .slice A' n' c'] := hd ⟨3, .data⟩ (by simp) rfl
        (try dsimp only); (try simp only [dq3])
        go_simp
        go_at_call 134
        (with_reducible refine (r_mag_c _ b' A' n' c' l' ?_ ?_).mono ?_); (exact wb.keep hk); omega; rintro e wr ⟨A7, n7, c7, rfl, h7, hbr⟩
        have hn7 : n7 ≤ 1000000000000 := h7.m_len (by rw [← HL'.out]; exact hn')
        have hz := hK.out _ _ ⟨A7, n7, c7, rfl, h7, hn7⟩ hbr
        simp only [dq3] at hz
        exact hz
    · exact fun xf wq hk how hd hx K hK => by
        have e8 : xf 8 = .slice A5 n5 c5 := (hx 8 _ rfl ⟨⟨5, .phase⟩, by simp, rfl, rfl⟩).trans (by simp [upd])
        (try dsimp only); simp only [e8]
        go_simp
        have hz := hK.out (.slice A5 n5 c5) _ rfl (brefl _)
        simp only [e8] at hz
        exact hz
    · exact fun xf wq hk how hd hx K hK => by
        obtain ⟨A6, n6, c6, dq4, h6, hn6⟩ : VL (WD.m ⟨b', l'⟩) 1000000000000 (xf 4) wq := hd ⟨4, .data⟩ (by simp) rfl
        have dq5 : xf 5 = .slice A5 n5 c5 := hd ⟨5, .data⟩ (by simp) rfl
        (try dsimp only); (try simp only [dq4, dq5])
        go_simp
        go_at_call 153
        have hle : x % y ≤ y := Nat.le_of_lt (Nat.mod_lt _ (Nat.pos_of_ne_zero HY.out))
        have hn56 : n5 ≤ n6 := by
          rw [h5.2.1]
          apply length_digs_le
          have h9 := h6.vlt (Nat.le_refl _)
          rw [hyl] at h9; omega
        (with_reducible refine (r_minus_c _ A6 n6 c6 (WD.m ⟨b', l'⟩) ?_ ?_ A5 n5 c5 (digs (x % y)) ?_ ?_ ?_).mono ?_); (exact h6); omega; (exact h5.keep hk); (exact hn56); (rw [val_digs, hyl]; exact hle); rintro e wr ⟨A7, n7, c7, rfl, h7, hbr⟩
        rw [val_digs, hyl] at h7
        have hn7 : n7 ≤ 1000000000000 := by
          rw [h7.2.1]
          refine Nat.le_trans (length_digs_le (k := n6) ?_) hn6
          have h9 := h6.vlt (Nat.le_refl _)
          rw [hyl] at h9; omega
        have hz := hK.out _ _ ⟨A7, n7, c7, rfl, h7, hn7⟩ hbr
        simp only [dq4, dq5] at hz
        exact hz
    · exact fun xf wq hk how hd hx K hK => by
        obtain ⟨A6, n6, c6, dq2, h6, hn6⟩ : VL (digs (x / y + 1)) 1000000000002 (xf 2) wq := hd ⟨2, .data⟩ (by simp) rfl
        (try dsimp only); (try simp only [dq2])
        go_simp
        have hz := hK.out _ _ ⟨A6, n6, c6, rfl, h6, hn6⟩ (brefl _)
        simp only [dq2] at hz
        exact hz
    · exact fun xf wq hk how hd hx K hK => by
        obtain ⟨A6, n6, c6, dq6, h6, hn6⟩ : VL (digs (y - x % y)) 1000000000000 (xf 6) wq := hd ⟨6, .data⟩ (by simp) rfl
        (try dsimp only); (try simp only [dq6])
        go_simp
        have hz := hK.out _ _ ⟨A6, n6, c6, rfl, h6, hn6⟩ (brefl _)
        simp only [dq6] at hz
        exact hz
    intro yv W1 kq hbl1 lw1 how hrr
    obtain ⟨A6, n6, c6, ea7, h6, hn6⟩ : VL (digs (x / y + 1)) 1000000000002 (yv 7) W1 := hrr 7 (by simp)
    obtain ⟨A7, n7, c7, ea8, h7, hn7⟩ : VL (digs (y - x % y)) 1000000000000 (yv 8) W1 := hrr 8 (by simp)
    have y0 := how _ (List.Mem.head _)
    dsimp only at y0
    have y1 := how _ (List.Mem.tail _ (List.Mem.head _))
    dsimp only at y1
    have y2 := how _ (List.Mem.tail _ (List.Mem.tail _ (List.Mem.head _)))
    dsimp only at y2
    have y3 := how _ (List.Mem.tail _ (List.Mem.tail _ (List.Mem.tail _ (List.Mem.head _))))
    dsimp only at y3
    (try dsimp only)
    simp only [ea7, ea8]
    clear hrr how ea7 ea8
    replace wa := wa.keep kq
    replace wb := wb.keep kq
    clear b0 c00 f00 c01 f01 c10 f10 c11 f11 c20 f20 c21 f21 c30 f30 c31 f31 x0 x1 x2 x3 hm0 hs0 r0 r1 r2 r3 r4 h2 h3 sc sf sr sz
    have b0 : Below w.heap.size w W1 := bw5.trans hbl1
    clear z0 z1 z2 z3 bw5 r5 r5z0 r5z1 r5z2 r5z3 kq hbl1
    obtain ⟨c00, c01⟩ := y0.c2
    obtain ⟨f00, f01⟩ := y0.f2
    obtain ⟨c10, c11⟩ := y1.c2
    obtain ⟨f10, f11⟩ := y1.f2
    obtain ⟨c20, c21⟩ := y2.c2
    obtain ⟨f20, f21⟩ := y2.f2
    obtain ⟨c30, c31⟩ := y3.c2
    obtain ⟨f30, f31⟩ := y3.f2
    have x2 : Box W1 (w.heap.size + 1 + 1) 46 := ⟨_, _, y2⟩
    have x3 : Box W1 (w.heap.size + 1 + 1 + 1) 46 := ⟨_, _, y3⟩
    have hm0 : Made (w.heap.size + 1 + 1) (w.heap.size + 1 + 1 + 1 + 1) 2 W1 := by
      intro g h1 h2
      by_cases e : g = w.heap.size + 1 + 1
      · subst e; exact ⟨_, _, y2, rfl⟩
      · have e2 : g = w.heap.size + 1 + 1 + 1 := by omega
        subst e2; exact ⟨_, _, y3, rfl⟩
    have hs0 : w.heap.size + 1 + 1 + 1 + 1 ≤ W1.heap.size := by have := y3.lt; omega
    have r5 : Below W1.heap.size W1 W1 := brefl _
    clear y0 y1 y2 y3
    go_wp2_with fail
    have HZ := Lib.hid (div_adj (sb := sb) (x := x) HY.out HR0.out)
    (try clear sc sf sr sz)
    have hRB : w.heap.size + 1 + 1 ≤ w.heap.size + 1 + 1 + 1 + 1 := by omega
    go_region_held3 (fun w' => Sees (w.heap.size + 1 + 1) W1 w') (first | exact Sees.of (Nat.le_trans hRB hs0) (by assumption) | exact Sees.of (Nat.le_trans hRB hs0) (below_drewN (by assumption) _) | exact (Sees.set (Sees.of (Nat.le_trans hRB hs0) (by assumption)) (by simp)) | exact (Sees.set (Sees.set (Sees.of (Nat.le_trans hRB hs0) (by assumption)) (by simp)) (by simp)) | exact (Sees.set (Sees.set (Sees.set (Sees.of (Nat.le_trans hRB hs0) (by assumption)) (by simp)) (by simp)) (by simp)) | exact (Sees.set (Sees.set (Sees.set (Sees.set (Sees.of (Nat.le_trans hRB hs0) (by assumption)) (by simp)) (by simp)) (by simp)) (by simp)))
      (first
        | (go_at_call 135; (with_reducible refine (r_neg_e _ b A n c l true ?_ ?_ ?_).mono ?_); (exact wa); (omega); (exact HS.out.1); rintro e w6 ⟨rfl, hb6⟩; replace hb6 := bnext (below_drewN (brefl _) 1) hb6; have r6 := bnext r5 hb6; replace wa := wa.belw hb6; replace wb := wb.belw hb6; replace h6 := h6.belw hb6; replace h7 := h7.belw hb6)
        | (go_at_call 135; (with_reducible refine (r_neg_e _ b' A' n' c' l' sb ?_ ?_ ?_).mono ?_); (exact wb); (omega); (exact HS.out.2); rintro e w7 ⟨rfl, hb7⟩; have r7 := bnext r6 hb7; replace wa := wa.belw hb7; replace wb := wb.belw hb7; replace h6 := h6.belw hb7; replace h7 := h7.belw hb7)
        | (go_at_call 133; (with_reducible refine (r_form_e _ (!sb) A6 n6 c6 (digs (x / y + 1)) (sgn true x / sgn sb y) ?_ ?_ ?_).mono ?_); (exact h6); (omega); (rw [HZ.out.1, val_digs]; cases sb <;> rfl); rintro e w8 ⟨A8, n8, c8, rfl, h8, hb8⟩; have r8 := bnext r7 hb8; replace wa := wa.belw hb8; replace wb := wb.belw hb8; replace h6 := h6.belw hb8; replace h7 := h7.belw hb8)
        | (go_at_call 133; (with_reducible refine (r_form_e _ false A7 n7 c7 (digs (y - x % y)) (sgn true x % sgn sb y) ?_ ?_ ?_).mono ?_); (exact h7); (omega); (rw [HZ.out.2, val_digs]; rfl); rintro e w9 ⟨A9, n9, c9, rfl, h9, hb9⟩; have r9 := bnext r8 hb9; replace wa := wa.belw hb9; replace wb := wb.belw hb9; replace h6 := h6.belw hb9; replace h7 := h7.belw hb9; replace h8 := h8.belw hb9; obtain ⟨⟨sc, sf⟩, sr, sz⟩ := Seen.of (by omega) hs0 hm0 r9))
    clear hRB
    go_wp2_with fail
    refine bodyPost_ret (v := .tuple #[.agg #[.bool _, .slice A8 n8 c8], .agg #[.bool _, .slice A9 n9 c9], .int .i64 0]) (by simp [results, Tryz.results111, go_sem, sr]; first | rfl | exact ⟨rfl, rfl⟩) rfl ?_
    have y2 := x2.below r9
    have y3 := x3.below r9
    refine ⟨A8, n8, c8, A9, n9, c9, rfl, ?_, ?_, ?_⟩
    · exact h8.keep (kp4 y2 y3 (by decide) (by decide) _ _ _ _ _ _ _ _)
    · exact h9.keep (kp4 y2 y3 (by decide) (by decide) _ _ _ _ _ _ _ _)
    · exact ((((b0.trans (r9.mono b0.size)).setCell (by dsimp only; omega) _).setCell (by dsimp only; omega) _).setCell (by dsimp only; omega) _).setCell (by dsimp only; omega) _

end Go.Proofs.YtkpjhmpjihchpaaGreatDoor

/- Walks: fractions: From by 0, Make, Floor, Bits, Abs, Min, Max. -/
namespace Go.Proofs.YtkpjhmpjihchpaaGreatDoor
open Go Go.RowKit Bn
attribute [local go_sem ↓] Go.wp_at_zero Go.wp_at_succ
theorem i_of_2 (w : World) (i : Int) (h0 : -9223372036854775808 ≤ i) (h1 : i < 9223372036854775808) : Calls Tryz.prog 60 #[.int .i64 i] w (RetI w i 2) := i_of w i 2 h0 h1 (by omega)
theorem r01_div_z (w : World) (b : Bool) (A : Option Addr) (n c : Nat) (z : Int) (k : Nat) (h : IZ w b A n c z k) (b' : Bool) (A' : Option Addr) (n' c' : Nat) (z' : Int) (k' : Nat) (h' : IZ w b' A' n' c' z' k') (hk : k + k' ≤ 1000000000) (h0 : z' ≠ 0) : Calls Tryz.prog 111 #[.agg #[.bool b, .slice A n c], .agg #[.bool b', .slice A' n' c']] w (RetDv w (.int .i64 0) (z / z') (z % z') (k + k')) := by
  by_cases hr : z % z' = 0
  · exact r01_div w b A n c z k h b' A' n' c' z' k' h' hk h0 hr
  · have hz := h.mono (Nat.le_add_right k k') |>.lt
    have hz' := h'.mono (Nat.le_add_left k' k) |>.lt
    obtain ⟨l, h1, rfl, h3⟩ := h
    obtain ⟨l', h1', rfl, h3'⟩ := h'
    refine (r_div_R w b A n c l h1 (by omega) b' A' n' c' l' h1' (by omega) h0 hr).mono fun _ _ r => ?_
    obtain ⟨A1, n1, c1, A2, n2, c2, rfl, r1, r2, r3⟩ := r
    refine ⟨_, A1, n1, c1, _, A2, n2, c2, rfl, IV.mk_ r1 rfl ?_, IV.mk_ r2 rfl ?_, r3⟩
    · exact Nat.lt_of_le_of_lt (Int.natAbs_ediv_le_natAbs _ _) hz
    · have e1 := Int.emod_nonneg (WD.z ⟨b, l⟩) h0
      have e2 := Int.emod_lt (WD.z ⟨b, l⟩) h0
      omega
theorem f_from_0 (w : World) (b : Bool) (A : Option Addr) (n c : Nat) (z : Int) (k : Nat) (h : IZ w b A n c z k) (b' : Bool) (A' : Option Addr) (n' c' : Nat) (z' : Int) (k' : Nat) (h' : IZ w b' A' n' c' z' k') (hd : z' = 0) (hk : k + k' ≤ 300000000) :
  Calls Tryz.prog 26 #[.agg #[.bool b, .slice A n c], .agg #[.bool b', .slice A' n' c']] w (RetFe w (.iface 77 (.int .i64 8)) 0 1) := by
 have HS := Lib.hid (show z'.sign = 0 by rw [hd]; rfl)
 clear hd
 go_enter Tryz.func26, Tryz.ntmps26
 go_wp2_with fail
 (with_reducible refine (i_sign_e _ b' A' n' c' (z') (k') ?_ 0 ?_ ?_).mono ?_); (exact (h'.belw ((((Below.refl _ _).alloc (Nat.le_refl _) _).alloc (by simp) _).alloc (by simp <;> omega) _))); (exact HS.out); (omega); rintro e w1 ⟨rfl, hb1⟩
 have q1 := ((((Below.refl _ _).alloc (Nat.le_refl _) _).alloc (by simp) _).alloc (by simp <;> omega) _).trans (hb1.mono (by simp <;> omega))
 replace h := h.belw q1
 replace h' := h'.belw q1
 have x1a : Blk w1 w.heap.size 46 #[.bool b, .slice A n c] := (((blkAt _ _ _ (by simp)).alloc _).alloc _).below hb1 (by simp <;> omega)
 have x1b := ((blkAt _ _ _ (g := w.heap.size + 1) (by simp)).alloc _).below hb1 (by simp <;> omega)
 have x1c := (blkAt _ _ _ (g := w.heap.size + 1 + 1) (by simp)).below hb1 (by simp)
 have bw1 := (brefl w).trans (q1.mono (brefl w).size)
 have lw1 : w.heap.size + 3 ≤ w1.heap.size := by have := hb1.size; simp at this; omega
 clear q1
 obtain ⟨cx1ca, cx1cb, cx1cc⟩ := x1c.c3
 obtain ⟨fx1ca, fx1cb, fx1cc⟩ := x1c.f3
 obtain ⟨lx1ca, lx1cb, lx1cc, lx1cd⟩ := lts2 x1c.lt
 go_wp2_with fail
 refine bodyPost_ret (v := .tuple #[.agg #[.bool false, .slice none 0 0, .slice none 0 0], .iface 77 (.int .i64 8)]) (by simp [results, Tryz.results26, go_sem, *] <;> first | rfl | exact ⟨rfl, rfl⟩) rfl ?_
 exact ⟨_, _, _, _, _, _, _, rfl, QV.zero _ _, (((bw1.sc (w.heap.size + 1 + 1) 0 (by omega) (.bool false)).sc (w.heap.size + 1 + 1) 1 (by omega) (.slice none 0 0)).sc (w.heap.size + 1 + 1) 2 (by omega) (.slice none 0 0))⟩
theorem f_make_2 (w : World) (i j : Int) (hi : -9223372036854775808 ≤ i) (hi2 : i < 9223372036854775808) (hj : -9223372036854775808 ≤ j) (hj2 : j < 9223372036854775808) (q : Rat) (K : Nat) (hd : j ≠ 0) (hq : Rat.divInt i j = q) (hs : Sz q K) :
  Calls Tryz.prog 25 #[.int .i64 i, .int .i64 j] w (RetFe w (.nilIface) q K) := by
 have HD := Lib.hid hd
 have HQ := Lib.hid hq
 have HS := Lib.hid hs
 clear hd hq hs
 go_enter Tryz.func25, Tryz.ntmps25
 go_wp2_with fail
 (with_reducible refine (i_of_2 _ (i) ?_ ?_).mono ?_); (first | omega | decide | assumption); (first | omega | decide | assumption); rintro e w1 ⟨b1, A1, n1, c1, rfl, h1, hb1⟩
 have q1 := ((Below.refl _ _).alloc (Nat.le_refl _) _).trans (hb1.mono (by simp))
 have x1a : Blk w1 w.heap.size 24 #[.bool false, .slice none 0 0, .slice none 0 0] := (blkAt _ _ _ (by simp)).below hb1 (by simp)
 have bw1 := (brefl w).trans (q1.mono (brefl w).size)
 have lw1 : w.heap.size + 1 ≤ w1.heap.size := by have := hb1.size; simp at this; omega
 clear q1
 go_wp2_with fail
 (with_reducible refine (i_of_2 _ (j) ?_ ?_).mono ?_); (first | omega | decide | assumption); (first | omega | decide | assumption); rintro e w2 ⟨b2, A2, n2, c2, rfl, h2, q2⟩
 replace h1 := h1.belw q2
 replace x1a := x1a.b q2
 have bw2 := bw1.trans (q2.mono bw1.size)
 have lw2 := q2.size
 clear q2 bw1
 go_wp2_with fail
 (with_reducible refine (f_from _ b1 A1 n1 c1 (i) (2) ?_ b2 A2 n2 c2 (j) (2) ?_ q K ?_ ?_ ?_ ?_).mono ?_); (exact h1.iz); (exact h2.iz); (exact HD.out); (exact HQ.out); (exact HS.out); (decide); rintro e w3 ⟨b3, A3, n3, c3, A'3, n'3, c'3, rfl, h3, q3⟩
 replace h1 := h1.belw q3
 replace h2 := h2.belw q3
 replace x1a := x1a.b q3
 have bw3 := bw2.trans (q3.mono bw2.size)
 have lw3 := q3.size
 clear q3 bw2
 obtain ⟨cx1aa, cx1ab, cx1ac⟩ := x1a.c3
 obtain ⟨fx1aa, fx1ab, fx1ac⟩ := x1a.f3
 obtain ⟨lx1aa, lx1ab, lx1ac, lx1ad⟩ := lts0 x1a.lt
 go_wp2_with fail
 refine bodyPost_ret (v := .tuple #[.agg #[.bool b3, .slice A3 n3 c3, .slice A'3 n'3 c'3], .nilIface]) (by simp [results, Tryz.results25, go_sem, *] <;> first | rfl | exact ⟨rfl, rfl⟩) rfl ?_
 exact ⟨b3, A3, n3, c3, A'3, n'3, c'3, rfl, h3.keep ((((Kp.refl w3).sb w.heap.size 0 x1a.box (by decide) (.bool b3)).sb w.heap.size 1 (x1a.box.set ⟨w.heap.size, 0, none⟩ (.bool b3)) (by decide) (.slice A3 n3 c3)).sb w.heap.size 2 ((x1a.box.set ⟨w.heap.size, 0, none⟩ (.bool b3)).set ⟨w.heap.size, 1, none⟩ (.slice A3 n3 c3)) (by decide) (.slice A'3 n'3 c'3)), (((bw3.sc w.heap.size 0 (by omega) (.bool b3)).sc w.heap.size 1 (by omega) (.slice A3 n3 c3)).sc w.heap.size 2 (by omega) (.slice A'3 n'3 c'3))⟩
theorem f_div_0 (w : World) (b : Bool) (A : Option Addr) (n c : Nat) (D : Option Addr) (m e : Nat) (q : Rat) (k : Nat) (h : QZ w b A n c D m e q k) (b' : Bool) (A' : Option Addr) (n' c' : Nat) (D' : Option Addr) (m' e' : Nat) (q' : Rat) (k' : Nat) (h' : QZ w b' A' n' c' D' m' e' q' k') (h0 : 0 < k) (hk : k ≤ 40000000) (h0' : 0 < k') (hk' : k' ≤ 40000000) (hz : q' = 0) :
    Calls Tryz.prog 56 #[.agg #[.bool b, .slice A n c, .slice D m e], .agg #[.bool b', .slice A' n' c', .slice D' m' e']] w (RetFe w (.iface 77 (.int .i64 8)) 0 1) := by
  have HD := Lib.hid (show (q.den : Int) * q'.num = 0 by rw [hz, show (0 : Rat).num = 0 from rfl, Int.mul_zero])
  clear hz
  go_enter Tryz.func56, Tryz.ntmps56
  go_wp2_with fail
  (with_reducible refine (f_parts _ b A n c D m e (q) (k) ?_ ?_ ?_).mono ?_); (exact (h.belw ((((Below.refl _ _).alloc (Nat.le_refl _) _).alloc (by simp) _).alloc (by simp <;> omega) _))); (first | omega | decide | assumption); (first | omega | decide | assumption); rintro e w1 ⟨b1, A1, n1, c1, b'1, A'1, n'1, c'1, rfl, h1, h'1, hb1⟩
  have q1 := ((((Below.refl _ _).alloc (Nat.le_refl _) _).alloc (by simp) _).alloc (by simp <;> omega) _).trans (hb1.mono (by simp <;> omega))
  replace h := h.belw q1
  replace h' := h'.belw q1
  have x1a : Blk w1 w.heap.size 24 #[.bool b, .slice A n c, .slice D m e] := (((blkAt _ _ _ (by simp)).alloc _).alloc _).below hb1 (by simp <;> omega)
  have x1b := ((blkAt _ _ _ (g := w.heap.size + 1) (by simp)).alloc _).below hb1 (by simp <;> omega)
  have x1c := (blkAt _ _ _ (g := w.heap.size + 1 + 1) (by simp)).below hb1 (by simp)
  have bw1 := (brefl w).trans (q1.mono (brefl w).size)
  have lw1 : w.heap.size + 3 ≤ w1.heap.size := by have := hb1.size; simp at this; omega
  clear q1
  obtain ⟨cx1ba, cx1bb, cx1bc⟩ := x1b.c3
  obtain ⟨lx1ba, lx1bb, lx1bc, lx1bd⟩ := lts1 x1b.lt
  go_wp2_with fail
  (with_reducible refine (f_parts _ b' A' n' c' D' m' e' (q') (k') ?_ ?_ ?_).mono ?_); (exact (h'.belw (((Below.refl _ _).alloc (Nat.le_refl _) _).alloc (by simp) _))); (first | omega | decide | assumption); (first | omega | decide | assumption); rintro e w2 ⟨b2, A2, n2, c2, b'2, A'2, n'2, c'2, rfl, h2, h'2, hb2⟩
  clear cx1ba cx1bb cx1bc lx1ba lx1bb lx1bc lx1bd
  have q2 := (((Below.refl _ _).alloc (Nat.le_refl _) _).alloc (by simp) _).trans (hb2.mono (by simp <;> omega))
  replace h := h.belw q2
  replace h' := h'.belw q2
  replace h1 := h1.belw q2
  replace h'1 := h'1.belw q2
  replace x1a := x1a.b q2
  replace x1b := x1b.b q2
  replace x1c := x1c.b q2
  have x2a : Blk w2 w1.heap.size 46 #[.bool b1, .slice A1 n1 c1] := ((blkAt _ _ _ (by simp)).alloc _).below hb2 (by simp <;> omega)
  have x2b := (blkAt _ _ _ (g := w1.heap.size + 1) (by simp)).below hb2 (by simp)
  have bw2 := bw1.trans (q2.mono bw1.size)
  have lw2 : w1.heap.size + 2 ≤ w2.heap.size := by have := hb2.size; simp at this; omega
  clear q2 bw1
  go_wp2_with fail
  have p3 := (((Kp.refl w2).alloc (.cells #[.bool b2, .slice A2 n2 c2] 46)).alloc (.cells #[.bool b'2, .slice A'2 n'2 c'2] 46))
  have bw3 := ((bw2.alloc (by first | omega | (simp <;> omega)) (.cells #[.bool b2, .slice A2 n2 c2] 46)).alloc (by first | omega | (simp <;> omega)) (.cells #[.bool b'2, .slice A'2 n'2 c'2] 46))
  have x3a : Blk ((w2.alloc (.cells #[.bool b2, .slice A2 n2 c2] 46)).alloc (.cells #[.bool b'2, .slice A'2 n'2 c'2] 46)) w2.heap.size 46 #[.bool b2, .slice A2 n2 c2] := ((blkAt _ _ _ (by simp)).alloc (.cells #[.bool b'2, .slice A'2 n'2 c'2] 46))
  have x3b : Blk ((w2.alloc (.cells #[.bool b2, .slice A2 n2 c2] 46)).alloc (.cells #[.bool b'2, .slice A'2 n'2 c'2] 46)) (w2.heap.size + 1) 46 #[.bool b'2, .slice A'2 n'2 c'2] := (blkAt _ _ _ (by simp))
  replace x1a := ((x1a.alloc (.cells #[.bool b2, .slice A2 n2 c2] 46)).alloc (.cells #[.bool b'2, .slice A'2 n'2 c'2] 46))
  replace x1b := ((x1b.alloc (.cells #[.bool b2, .slice A2 n2 c2] 46)).alloc (.cells #[.bool b'2, .slice A'2 n'2 c'2] 46))
  replace x1c := ((x1c.alloc (.cells #[.bool b2, .slice A2 n2 c2] 46)).alloc (.cells #[.bool b'2, .slice A'2 n'2 c'2] 46))
  replace x2a := ((x2a.alloc (.cells #[.bool b2, .slice A2 n2 c2] 46)).alloc (.cells #[.bool b'2, .slice A'2 n'2 c'2] 46))
  replace x2b := ((x2b.alloc (.cells #[.bool b2, .slice A2 n2 c2] 46)).alloc (.cells #[.bool b'2, .slice A'2 n'2 c'2] 46))
  have lw3 : w2.heap.size + 2 ≤ ((w2.alloc (.cells #[.bool b2, .slice A2 n2 c2] 46)).alloc (.cells #[.bool b'2, .slice A'2 n'2 c'2] 46)).heap.size := by simp
  generalize hE3 : ((w2.alloc (.cells #[.bool b2, .slice A2 n2 c2] 46)).alloc (.cells #[.bool b'2, .slice A'2 n'2 c'2] 46)) = w3 at p3 bw3 lw3 x3a x3b x1a x1b x1c x2a x2b ⊢
  clear hE3
  replace h := h.keep p3
  replace h' := h'.keep p3
  replace h1 := h1.keep p3
  replace h'1 := h'1.keep p3
  replace h2 := h2.keep p3
  replace h'2 := h'2.keep p3
  clear bw2
  obtain ⟨lx1aa, lx1ab, lx1ac, lx1ad⟩ := lts0 x1a.lt
  obtain ⟨lx1ba, lx1bb, lx1bc, lx1bd⟩ := lts1 x1b.lt
  have cx1ca : w3.cell? ⟨w.heap.size + 1 + 1, 0, none⟩ = some (.bool false) := x1c.cell 0
  have fx1ca : w3.frozen? ⟨w.heap.size + 1 + 1, 0, none⟩ = false := x1c.frozen 0
  have cx1cb : w3.cell? ⟨w.heap.size + 1 + 1, 1, none⟩ = some (.slice none 0 0) := x1c.cell 1
  have fx1cb : w3.frozen? ⟨w.heap.size + 1 + 1, 1, none⟩ = false := x1c.frozen 1
  have cx1cc : w3.cell? ⟨w.heap.size + 1 + 1, 2, none⟩ = some (.slice none 0 0) := x1c.cell 2
  have fx1cc : w3.frozen? ⟨w.heap.size + 1 + 1, 2, none⟩ = false := x1c.frozen 2
  obtain ⟨lx1ca, lx1cb, lx1cc, lx1cd⟩ := lts2 x1c.lt
  obtain ⟨cx2aa, cx2ab⟩ := x2a.c2
  obtain ⟨lx2aa, lx2ab, lx2ac, lx2ad⟩ := lts0 x2a.lt
  obtain ⟨cx2ba, cx2bb⟩ := x2b.c2
  obtain ⟨lx2ba, lx2bb, lx2bc, lx2bd⟩ := lts1 x2b.lt
  obtain ⟨cx3aa, cx3ab⟩ := x3a.c2
  obtain ⟨lx3aa, lx3ab, lx3ac, lx3ad⟩ := lts0 x3a.lt
  obtain ⟨cx3ba, cx3bb⟩ := x3b.c2
  obtain ⟨lx3ba, lx3bb, lx3bc, lx3bd⟩ := lts1 x3b.lt
  have nfx1_0_0 : ¬ w.heap.size = w.heap.size + 1 + 1 := by omega
  have nex1_0_0 : ¬ w.heap.size = w.heap.size + 2 := by omega
  have nfx1_1_0 : ¬ w.heap.size + 1 = w.heap.size + 1 + 1 := by omega
  have nex1_1_0 : ¬ w.heap.size = w.heap.size + 1 := by omega
  have nfx2_0_0 : ¬ w1.heap.size = w.heap.size + 1 + 1 := by omega
  have nex2_0_0 : ¬ w1.heap.size = w.heap.size + 2 := by omega
  have nfx2_1_0 : ¬ w1.heap.size + 1 = w.heap.size + 1 + 1 := by omega
  have nex2_1_0 : ¬ w1.heap.size = w.heap.size + 1 := by omega
  have nfx3_0_0 : ¬ w2.heap.size = w.heap.size + 1 + 1 := by omega
  have nex3_0_0 : ¬ w2.heap.size = w.heap.size + 2 := by omega
  have nfx3_1_0 : ¬ w2.heap.size + 1 = w.heap.size + 1 + 1 := by omega
  have nex3_1_0 : ¬ w2.heap.size = w.heap.size + 1 := by omega
  go_region_held3 (fun w' => SeesX w3.heap.size (w.heap.size + 1 + 1) w3 w') (first | with_reducible exact SeesX.of (Nat.le_refl _) (by assumption) | with_reducible exact SeesX.of (Nat.le_refl _) (brefl _).drew | with_reducible exact (SeesX.set (SeesX.set (SeesX.set (SeesX.of (Nat.le_refl _) (by assumption))))) | with_reducible exact (SeesX.set (SeesX.set (SeesX.of (Nat.le_refl _) (by assumption)))) | with_reducible exact (SeesX.set (SeesX.of (Nat.le_refl _) (by assumption))) | exact SeesX.of (Nat.le_refl _) (below_drewN (brefl _) 1) | exact SeesX.of (Nat.le_refl _) (below_drewN (by assumption) _))
    (first
      | (go_at_call 106; (with_reducible refine (i_mul _ b1 A1 n1 c1 ((q).num) ((k)) ?_ b'2 A'2 n'2 c'2 (((q').den : Int)) ((k')) ?_ ?_).mono ?_); (exact h1.iz); (exact h'2.iz); (first | omega | decide | assumption); rintro e w4 ⟨b4, A4, n4, c4, rfl, h4, hb4⟩; replace hb4 := bnext (below_drewN (brefl _) 1) hb4; have q4 : Below w3.heap.size w3 w4 := bnext (brefl w3) hb4; replace h := h.belw hb4; replace h' := h'.belw hb4; replace h1 := h1.belw hb4; replace h'1 := h'1.belw hb4; replace h2 := h2.belw hb4; replace h'2 := h'2.belw hb4)
      | (go_at_call 106; (with_reducible refine (i_mul _ b'1 A'1 n'1 c'1 (((q).den : Int)) ((k)) ?_ b2 A2 n2 c2 ((q').num) ((k')) ?_ ?_).mono ?_); (exact h'1.iz); (exact h2.iz); (first | omega | decide | assumption); rintro e w5 ⟨b5, A5, n5, c5, rfl, h5, hb5⟩; have q5 : Below w3.heap.size w3 w5 := bnext q4 hb5; replace h := h.belw hb5; replace h' := h'.belw hb5; replace h1 := h1.belw hb5; replace h'1 := h'1.belw hb5; replace h2 := h2.belw hb5; replace h'2 := h'2.belw hb5; replace h4 := h4.belw hb5)
      | (go_at_call 26; (with_reducible refine (f_from_0 _ b4 A4 n4 c4 (((q).num) * (((q').den : Int))) (((k)) + ((k'))) ?_ b5 A5 n5 c5 ((((q).den : Int)) * ((q').num)) (((k)) + ((k'))) ?_  ?_ ?_).mono ?_); (exact h4.iz); (exact h5.iz); (exact HD.out); (omega); rintro e w6 ⟨b6, A6, n6, c6, A'6, n'6, c'6, rfl, h6, hb6⟩; have q6 : Below w3.heap.size w3 w6 := bnext q5 hb6; replace h := h.belw hb6; replace h' := h'.belw hb6; replace h1 := h1.belw hb6; replace h'1 := h'1.belw hb6; replace h2 := h2.belw hb6; replace h'2 := h'2.belw hb6; replace h4 := h4.belw hb6; replace h5 := h5.belw hb6; have x1c := x1c.b q6; obtain ⟨cx1ca, cx1cb, cx1cc⟩ := x1c.c3; obtain ⟨fx1ca, fx1cb, fx1cc⟩ := x1c.f3))
  have bw6 := bw3.trans (q6.mono bw3.size)
  clear lx1aa lx1ab lx1ac lx1ad lx1ba lx1bb lx1bc lx1bd cx1ca fx1ca cx1cb fx1cb cx1cc fx1cc lx1ca lx1cb lx1cc lx1cd cx2aa cx2ab lx2aa lx2ab lx2ac lx2ad cx2ba cx2bb lx2ba lx2bb lx2bc lx2bd cx3aa cx3ab lx3aa lx3ab lx3ac lx3ad cx3ba cx3bb lx3ba lx3bb lx3bc lx3bd
  replace x1a := x1a.b q6
  replace x1b := x1b.b q6
  replace x2a := x2a.b q6
  replace x2b := x2b.b q6
  replace x3a := x3a.b q6
  replace x3b := x3b.b q6
  have lw6 := q6.size
  obtain ⟨cx1ca, cx1cb, cx1cc⟩ := x1c.c3
  obtain ⟨fx1ca, fx1cb, fx1cc⟩ := x1c.f3
  go_wp2_with fail
  refine bodyPost_ret (v := .tuple #[.agg #[.bool b6, .slice A6 n6 c6, .slice A'6 n'6 c'6], .iface 77 (.int .i64 8)]) (by simp [results, Tryz.results56, go_sem, *] <;> first | rfl | exact ⟨rfl, rfl⟩) rfl ?_
  exact ⟨b6, A6, n6, c6, A'6, n'6, c'6, rfl, h6.keep ((((Kp.refl w6).sb (w.heap.size + 1 + 1) 0 x1c.box (by decide) (.bool b6)).sb (w.heap.size + 1 + 1) 1 (x1c.box.set ⟨w.heap.size + 1 + 1, 0, none⟩ (.bool b6)) (by decide) (.slice A6 n6 c6)).sb (w.heap.size + 1 + 1) 2 ((x1c.box.set ⟨w.heap.size + 1 + 1, 0, none⟩ (.bool b6)).set ⟨w.heap.size + 1 + 1, 1, none⟩ (.slice A6 n6 c6)) (by decide) (.slice A'6 n'6 c'6)), (((bw6.sc (w.heap.size + 1 + 1) 0 (by omega) (.bool b6)).sc (w.heap.size + 1 + 1) 1 (by omega) (.slice A6 n6 c6)).sc (w.heap.size + 1 + 1) 2 (by omega) (.slice A'6 n'6 c'6))⟩
theorem f_floor (w : World) (b : Bool) (A : Option Addr) (n c : Nat) (D : Option Addr) (m e : Nat) (q : Rat) (k : Nat) (h : QZ w b A n c D m e q k) (h0 : 0 < k) (hk : k ≤ 40000000) :
  Calls Tryz.prog 51 #[.agg #[.bool b, .slice A n c, .slice D m e]] w (RetI w (floorQ q) (k + k)) := by
 go_enter Tryz.func51, Tryz.ntmps51
 go_wp2_with fail
 (with_reducible refine (f_parts _ b A n c D m e (q) (k) ?_ ?_ ?_).mono ?_); (exact (h.belw (((Below.refl _ _).alloc (Nat.le_refl _) _).alloc (by simp) _))); (first | omega | decide | assumption); (first | omega | decide | assumption); rintro e w1 ⟨b1, A1, n1, c1, b'1, A'1, n'1, c'1, rfl, h1, h'1, hb1⟩
 have q1 := (((Below.refl _ _).alloc (Nat.le_refl _) _).alloc (by simp) _).trans (hb1.mono (by simp <;> omega))
 replace h := h.belw q1
 have x1a : Blk w1 w.heap.size 24 #[.bool b, .slice A n c, .slice D m e] := ((blkAt _ _ _ (by simp)).alloc _).below hb1 (by simp <;> omega)
 have x1b := (blkAt _ _ _ (g := w.heap.size + 1) (by simp)).below hb1 (by simp)
 have bw1 := (brefl w).trans (q1.mono (brefl w).size)
 have lw1 : w.heap.size + 2 ≤ w1.heap.size := by have := hb1.size; simp at this; omega
 clear q1
 go_wp2_with fail
 (with_reducible refine (i_div _ b1 A1 n1 c1 ((q).num) ((k)) ?_ b'1 A'1 n'1 c'1 (((q).den : Int)) ((k)) ?_ ?_ ?_).mono ?_); (exact (h1.belw (((Below.refl _ _).alloc (Nat.le_refl _) _).alloc (by simp) _)).iz); (exact (h'1.belw (((Below.refl _ _).alloc (Nat.le_refl _) _).alloc (by simp) _)).iz); (omega); (exact den_ne _); rintro e w2 ⟨b2, A2, n2, c2, b'2, A'2, n'2, c'2, rfl, h2, h'2, hb2⟩
 have q2 := (((Below.refl _ _).alloc (Nat.le_refl _) _).alloc (by simp) _).trans (hb2.mono (by simp <;> omega))
 replace h := h.belw q2
 replace h1 := h1.belw q2
 replace h'1 := h'1.belw q2
 replace x1a := x1a.b q2
 replace x1b := x1b.b q2
 have x2a : Blk w2 w1.heap.size 46 #[.bool b1, .slice A1 n1 c1] := ((blkAt _ _ _ (by simp)).alloc _).below hb2 (by simp <;> omega)
 have x2b := (blkAt _ _ _ (g := w1.heap.size + 1) (by simp)).below hb2 (by simp)
 have bw2 := bw1.trans (q2.mono bw1.size)
 have lw2 : w1.heap.size + 2 ≤ w2.heap.size := by have := hb2.size; simp at this; omega
 clear q2 bw1
 obtain ⟨cx1ba, cx1bb⟩ := x1b.c2
 obtain ⟨fx1ba, fx1bb⟩ := x1b.f2
 obtain ⟨lx1ba, lx1bb, lx1bc, lx1bd⟩ := lts1 x1b.lt
 go_wp2_with fail
 refine bodyPost_ret (v := .agg #[.bool b2, .slice A2 n2 c2]) (by simp [results, Tryz.results51, go_sem, *] <;> first | rfl | exact ⟨rfl, rfl⟩) rfl ?_
 exact ⟨b2, A2, n2, c2, rfl, h2.keep (((((Kp.refl w2).sb (w.heap.size + 1) 0 x1b.box (by decide) (.bool b2)).sb (w.heap.size + 1) 1 (x1b.box.set ⟨w.heap.size + 1, 0, none⟩ (.bool b2)) (by decide) (.slice A2 n2 c2)).alloc (.cells #[.bool b2, .slice A2 n2 c2] 46)).alloc (.cells #[.bool b'2, .slice A'2 n'2 c'2] 46)), ((((bw2.sc (w.heap.size + 1) 0 (by omega) (.bool b2)).sc (w.heap.size + 1) 1 (by omega) (.slice A2 n2 c2)).alloc (by first | omega | (simp <;> omega)) (.cells #[.bool b2, .slice A2 n2 c2] 46)).alloc (by first | omega | (simp <;> omega)) (.cells #[.bool b'2, .slice A'2 n'2 c'2] 46))⟩
theorem f_bits (w : World) (b : Bool) (A : Option Addr) (n c : Nat) (D : Option Addr) (m e : Nat) (q : Rat) (k : Nat) (h : QZ w b A n c D m e q k) (h0 : 0 < k) (hk : k ≤ 40000000) :
    Calls Tryz.prog 53 #[.agg #[.bool b, .slice A n c, .slice D m e]] w (RetV w (.int .i64 ((blen q.num.natAbs + blen q.den : Nat) : Int))) := by
  have hs := h.sz h0
  have hb1 : blen q.num.natAbs ≤ 32 * 40000000 := blen_max hk hs.1
  have hb2 : blen q.den ≤ 32 * 40000000 := blen_max hk hs.2
  clear hs
  go_enter Tryz.func53, Tryz.ntmps53
  go_wp2_with fail
  (with_reducible refine (f_parts _ b A n c D m e (q) (k) ?_ ?_ ?_).mono ?_); (exact (h.belw ((Below.refl _ _).alloc (Nat.le_refl _) _))); (first | omega | decide | assumption); (first | omega | decide | assumption); rintro e w1 ⟨b1, A1, n1, c1, b'1, A'1, n'1, c'1, rfl, h1, h'1, hb1⟩
  have q1 := ((Below.refl _ _).alloc (Nat.le_refl _) _).trans (hb1.mono (by simp))
  replace h := h.belw q1
  have x1a : Blk w1 w.heap.size 24 #[.bool b, .slice A n c, .slice D m e] := (blkAt _ _ _ (by simp)).below hb1 (by simp)
  have bw1 := (brefl w).trans (q1.mono (brefl w).size)
  have lw1 : w.heap.size + 1 ≤ w1.heap.size := by have := hb1.size; simp at this; omega
  clear q1
  go_wp2_with fail
  have p2 := (((Kp.refl w1).alloc (.cells #[.bool b1, .slice A1 n1 c1] 46)).alloc (.cells #[.bool b'1, .slice A'1 n'1 c'1] 46))
  have bw2 := ((bw1.alloc (by first | omega | (simp <;> omega)) (.cells #[.bool b1, .slice A1 n1 c1] 46)).alloc (by first | omega | (simp <;> omega)) (.cells #[.bool b'1, .slice A'1 n'1 c'1] 46))
  have x2a : Blk ((w1.alloc (.cells #[.bool b1, .slice A1 n1 c1] 46)).alloc (.cells #[.bool b'1, .slice A'1 n'1 c'1] 46)) w1.heap.size 46 #[.bool b1, .slice A1 n1 c1] := ((blkAt _ _ _ (by simp)).alloc (.cells #[.bool b'1, .slice A'1 n'1 c'1] 46))
  have x2b : Blk ((w1.alloc (.cells #[.bool b1, .slice A1 n1 c1] 46)).alloc (.cells #[.bool b'1, .slice A'1 n'1 c'1] 46)) (w1.heap.size + 1) 46 #[.bool b'1, .slice A'1 n'1 c'1] := (blkAt _ _ _ (by simp))
  replace x1a := ((x1a.alloc (.cells #[.bool b1, .slice A1 n1 c1] 46)).alloc (.cells #[.bool b'1, .slice A'1 n'1 c'1] 46))
  have lw2 : w1.heap.size + 2 ≤ ((w1.alloc (.cells #[.bool b1, .slice A1 n1 c1] 46)).alloc (.cells #[.bool b'1, .slice A'1 n'1 c'1] 46)).heap.size := by simp
  generalize hE2 : ((w1.alloc (.cells #[.bool b1, .slice A1 n1 c1] 46)).alloc (.cells #[.bool b'1, .slice A'1 n'1 c'1] 46)) = w2 at p2 bw2 lw2 x2a x2b x1a ⊢
  clear hE2
  replace h := h.keep p2
  replace h1 := h1.keep p2
  replace h'1 := h'1.keep p2
  clear bw1
  obtain ⟨lx1aa, lx1ab, lx1ac, lx1ad⟩ := lts0 x1a.lt
  obtain ⟨cx2aa, cx2ab⟩ := x2a.c2
  obtain ⟨lx2aa, lx2ab, lx2ac, lx2ad⟩ := lts0 x2a.lt
  obtain ⟨cx2ba, cx2bb⟩ := x2b.c2
  obtain ⟨lx2ba, lx2bb, lx2bc, lx2bd⟩ := lts1 x2b.lt
  go_region_held3 (fun w' => Sees w2.heap.size w2 w') (first | with_reducible exact Sees.of (Nat.le_refl _) (by assumption) | with_reducible exact Sees.of (Nat.le_refl _) (brefl _).drew | exact Sees.of (Nat.le_refl _) (below_drewN (brefl _) 1) | exact Sees.of (Nat.le_refl _) (below_drewN (by assumption) _))
    (first
      | (go_at_call 115; (with_reducible refine (i_bits _ b1 A1 n1 c1 ((q).num) ((k)) ?_ ?_).mono ?_); (exact h1.iz); (first | omega | decide | assumption); rintro e w3 ⟨rfl, hb3⟩; replace hb3 := bnext (below_drewN (brefl _) 1) hb3; have q3 : Below w2.heap.size w2 w3 := bnext (brefl w2) hb3; replace h := h.belw hb3; replace h1 := h1.belw hb3; replace h'1 := h'1.belw hb3)
      | (go_at_call 115; (with_reducible refine (i_bits _ b'1 A'1 n'1 c'1 (((q).den : Int)) ((k)) ?_ ?_).mono ?_); (exact h'1.iz); (first | omega | decide | assumption); rintro e w4 ⟨rfl, hb4⟩; have q4 : Below w2.heap.size w2 w4 := bnext q3 hb4; replace h := h.belw hb4; replace h1 := h1.belw hb4; replace h'1 := h'1.belw hb4))
  have bw4 := bw2.trans (q4.mono bw2.size)
  clear lx1aa lx1ab lx1ac lx1ad cx2aa cx2ab lx2aa lx2ab lx2ac lx2ad cx2ba cx2bb lx2ba lx2bb lx2bc lx2bd
  replace x1a := x1a.b q4
  replace x2a := x2a.b q4
  replace x2b := x2b.b q4
  have lw4 := q4.size
  go_wp2_with fail
  have ew : IntKind.i64.wrap ((blen q.num.natAbs : Nat) + (blen q.den : Nat) : Int) = ((blen q.num.natAbs : Nat) + (blen q.den : Nat) : Int) := IntWalk.i64_in _ ⟨by omega, by omega⟩
  go_ret
  exact retI (by simp [ew]) bw4
theorem g_from_0 (w : World) (b : Bool) (A : Option Addr) (n c : Nat) (z : Int) (k : Nat) (h : IZ w b A n c z k) (b' : Bool) (A' : Option Addr) (n' c' : Nat) (z' : Int) (k' : Nat) (h' : IZ w b' A' n' c' z' k') (hd : z' = 0) (hk : k + k' ≤ 300000000) :
  Calls Tryz.prog 29 #[.agg #[.bool b, .slice A n c], .agg #[.bool b', .slice A' n' c']] w (RetFe w (.int .i64 8) 0 1) := by
 have HS := Lib.hid (show z'.sign = 0 by rw [hd]; rfl)
 clear hd
 go_enter Tryz.func29, Tryz.ntmps29
 go_wp2_with fail
 (with_reducible refine (r01_sign_e _ b' A' n' c' (z') (k') ?_ 0 ?_ ?_).mono ?_); (exact (h'.belw ((((Below.refl _ _).alloc (Nat.le_refl _) _).alloc (by simp) _).alloc (by simp <;> omega) _))); (exact HS.out); (omega); rintro e w1 ⟨rfl, hb1⟩
 have q1 := ((((Below.refl _ _).alloc (Nat.le_refl _) _).alloc (by simp) _).alloc (by simp <;> omega) _).trans (hb1.mono (by simp <;> omega))
 replace h := h.belw q1
 replace h' := h'.belw q1
 have x1a : Blk w1 w.heap.size 46 #[.bool b, .slice A n c] := (((blkAt _ _ _ (by simp)).alloc _).alloc _).below hb1 (by simp <;> omega)
 have x1b := ((blkAt _ _ _ (g := w.heap.size + 1) (by simp)).alloc _).below hb1 (by simp <;> omega)
 have x1c := (blkAt _ _ _ (g := w.heap.size + 1 + 1) (by simp)).below hb1 (by simp)
 have bw1 := (brefl w).trans (q1.mono (brefl w).size)
 have lw1 : w.heap.size + 3 ≤ w1.heap.size := by have := hb1.size; simp at this; omega
 clear q1
 obtain ⟨cx1ca, cx1cb, cx1cc⟩ := x1c.c3
 obtain ⟨fx1ca, fx1cb, fx1cc⟩ := x1c.f3
 obtain ⟨lx1ca, lx1cb, lx1cc, lx1cd⟩ := lts2 x1c.lt
 go_wp2_with fail
 refine bodyPost_ret (v := .tuple #[.agg #[.bool false, .slice none 0 0, .slice none 0 0], .int .i64 8]) (by simp [results, Tryz.results29, go_sem, *] <;> first | rfl | exact ⟨rfl, rfl⟩) rfl ?_
 exact ⟨_, _, _, _, _, _, _, rfl, QV.zero _ _, (((bw1.sc (w.heap.size + 1 + 1) 0 (by omega) (.bool false)).sc (w.heap.size + 1 + 1) 1 (by omega) (.slice none 0 0)).sc (w.heap.size + 1 + 1) 2 (by omega) (.slice none 0 0))⟩
theorem g_div_0 (w : World) (b : Bool) (A : Option Addr) (n c : Nat) (D : Option Addr) (m e : Nat) (q : Rat) (k : Nat) (h : QZ w b A n c D m e q k) (b' : Bool) (A' : Option Addr) (n' c' : Nat) (D' : Option Addr) (m' e' : Nat) (q' : Rat) (k' : Nat) (h' : QZ w b' A' n' c' D' m' e' q' k') (h0 : 0 < k) (hk : k ≤ 40000000) (h0' : 0 < k') (hk' : k' ≤ 40000000) (hz : q' = 0) :
    Calls Tryz.prog 61 #[.agg #[.bool b, .slice A n c, .slice D m e], .agg #[.bool b', .slice A' n' c', .slice D' m' e']] w (RetFe w (.int .i64 8) 0 1) := by
  have HD := Lib.hid (show (q.den : Int) * q'.num = 0 by rw [hz, show (0 : Rat).num = 0 from rfl, Int.mul_zero])
  clear hz
  go_enter Tryz.func61, Tryz.ntmps61
  go_wp2_with fail
  (with_reducible refine (g_parts _ b A n c D m e (q) (k) ?_ ?_ ?_).mono ?_); (exact (h.belw ((((Below.refl _ _).alloc (Nat.le_refl _) _).alloc (by simp) _).alloc (by simp <;> omega) _))); (first | omega | decide | assumption); (first | omega | decide | assumption); rintro e w1 ⟨b1, A1, n1, c1, b'1, A'1, n'1, c'1, rfl, h1, h'1, hb1⟩
  have q1 := ((((Below.refl _ _).alloc (Nat.le_refl _) _).alloc (by simp) _).alloc (by simp <;> omega) _).trans (hb1.mono (by simp <;> omega))
  replace h := h.belw q1
  replace h' := h'.belw q1
  have x1a : Blk w1 w.heap.size 24 #[.bool b, .slice A n c, .slice D m e] := (((blkAt _ _ _ (by simp)).alloc _).alloc _).below hb1 (by simp <;> omega)
  have x1b := ((blkAt _ _ _ (g := w.heap.size + 1) (by simp)).alloc _).below hb1 (by simp <;> omega)
  have x1c := (blkAt _ _ _ (g := w.heap.size + 1 + 1) (by simp)).below hb1 (by simp)
  have bw1 := (brefl w).trans (q1.mono (brefl w).size)
  have lw1 : w.heap.size + 3 ≤ w1.heap.size := by have := hb1.size; simp at this; omega
  clear q1
  obtain ⟨cx1ba, cx1bb, cx1bc⟩ := x1b.c3
  obtain ⟨lx1ba, lx1bb, lx1bc, lx1bd⟩ := lts1 x1b.lt
  go_wp2_with fail
  (with_reducible refine (g_parts _ b' A' n' c' D' m' e' (q') (k') ?_ ?_ ?_).mono ?_); (exact (h'.belw (((Below.refl _ _).alloc (Nat.le_refl _) _).alloc (by simp) _))); (first | omega | decide | assumption); (first | omega | decide | assumption); rintro e w2 ⟨b2, A2, n2, c2, b'2, A'2, n'2, c'2, rfl, h2, h'2, hb2⟩
  clear cx1ba cx1bb cx1bc lx1ba lx1bb lx1bc lx1bd
  have q2 := (((Below.refl _ _).alloc (Nat.le_refl _) _).alloc (by simp) _).trans (hb2.mono (by simp <;> omega))
  replace h := h.belw q2
  replace h' := h'.belw q2
  replace h1 := h1.belw q2
  replace h'1 := h'1.belw q2
  replace x1a := x1a.b q2
  replace x1b := x1b.b q2
  replace x1c := x1c.b q2
  have x2a : Blk w2 w1.heap.size 46 #[.bool b1, .slice A1 n1 c1] := ((blkAt _ _ _ (by simp)).alloc _).below hb2 (by simp <;> omega)
  have x2b := (blkAt _ _ _ (g := w1.heap.size + 1) (by simp)).below hb2 (by simp)
  have bw2 := bw1.trans (q2.mono bw1.size)
  have lw2 : w1.heap.size + 2 ≤ w2.heap.size := by have := hb2.size; simp at this; omega
  clear q2 bw1
  go_wp2_with fail
  have p3 := (((Kp.refl w2).alloc (.cells #[.bool b2, .slice A2 n2 c2] 46)).alloc (.cells #[.bool b'2, .slice A'2 n'2 c'2] 46))
  have bw3 := ((bw2.alloc (by first | omega | (simp <;> omega)) (.cells #[.bool b2, .slice A2 n2 c2] 46)).alloc (by first | omega | (simp <;> omega)) (.cells #[.bool b'2, .slice A'2 n'2 c'2] 46))
  have x3a : Blk ((w2.alloc (.cells #[.bool b2, .slice A2 n2 c2] 46)).alloc (.cells #[.bool b'2, .slice A'2 n'2 c'2] 46)) w2.heap.size 46 #[.bool b2, .slice A2 n2 c2] := ((blkAt _ _ _ (by simp)).alloc (.cells #[.bool b'2, .slice A'2 n'2 c'2] 46))
  have x3b : Blk ((w2.alloc (.cells #[.bool b2, .slice A2 n2 c2] 46)).alloc (.cells #[.bool b'2, .slice A'2 n'2 c'2] 46)) (w2.heap.size + 1) 46 #[.bool b'2, .slice A'2 n'2 c'2] := (blkAt _ _ _ (by simp))
  replace x1a := ((x1a.alloc (.cells #[.bool b2, .slice A2 n2 c2] 46)).alloc (.cells #[.bool b'2, .slice A'2 n'2 c'2] 46))
  replace x1b := ((x1b.alloc (.cells #[.bool b2, .slice A2 n2 c2] 46)).alloc (.cells #[.bool b'2, .slice A'2 n'2 c'2] 46))
  replace x1c := ((x1c.alloc (.cells #[.bool b2, .slice A2 n2 c2] 46)).alloc (.cells #[.bool b'2, .slice A'2 n'2 c'2] 46))
  replace x2a := ((x2a.alloc (.cells #[.bool b2, .slice A2 n2 c2] 46)).alloc (.cells #[.bool b'2, .slice A'2 n'2 c'2] 46))
  replace x2b := ((x2b.alloc (.cells #[.bool b2, .slice A2 n2 c2] 46)).alloc (.cells #[.bool b'2, .slice A'2 n'2 c'2] 46))
  have lw3 : w2.heap.size + 2 ≤ ((w2.alloc (.cells #[.bool b2, .slice A2 n2 c2] 46)).alloc (.cells #[.bool b'2, .slice A'2 n'2 c'2] 46)).heap.size := by simp
  generalize hE3 : ((w2.alloc (.cells #[.bool b2, .slice A2 n2 c2] 46)).alloc (.cells #[.bool b'2, .slice A'2 n'2 c'2] 46)) = w3 at p3 bw3 lw3 x3a x3b x1a x1b x1c x2a x2b ⊢
  clear hE3
  replace h := h.keep p3
  replace h' := h'.keep p3
  replace h1 := h1.keep p3
  replace h'1 := h'1.keep p3
  replace h2 := h2.keep p3
  replace h'2 := h'2.keep p3
  clear bw2
  obtain ⟨lx1aa, lx1ab, lx1ac, lx1ad⟩ := lts0 x1a.lt
  obtain ⟨lx1ba, lx1bb, lx1bc, lx1bd⟩ := lts1 x1b.lt
  have cx1ca : w3.cell? ⟨w.heap.size + 1 + 1, 0, none⟩ = some (.bool false) := x1c.cell 0
  have fx1ca : w3.frozen? ⟨w.heap.size + 1 + 1, 0, none⟩ = false := x1c.frozen 0
  have cx1cb : w3.cell? ⟨w.heap.size + 1 + 1, 1, none⟩ = some (.slice none 0 0) := x1c.cell 1
  have fx1cb : w3.frozen? ⟨w.heap.size + 1 + 1, 1, none⟩ = false := x1c.frozen 1
  have cx1cc : w3.cell? ⟨w.heap.size + 1 + 1, 2, none⟩ = some (.slice none 0 0) := x1c.cell 2
  have fx1cc : w3.frozen? ⟨w.heap.size + 1 + 1, 2, none⟩ = false := x1c.frozen 2
  obtain ⟨lx1ca, lx1cb, lx1cc, lx1cd⟩ := lts2 x1c.lt
  obtain ⟨cx2aa, cx2ab⟩ := x2a.c2
  obtain ⟨lx2aa, lx2ab, lx2ac, lx2ad⟩ := lts0 x2a.lt
  obtain ⟨cx2ba, cx2bb⟩ := x2b.c2
  obtain ⟨lx2ba, lx2bb, lx2bc, lx2bd⟩ := lts1 x2b.lt
  obtain ⟨cx3aa, cx3ab⟩ := x3a.c2
  obtain ⟨lx3aa, lx3ab, lx3ac, lx3ad⟩ := lts0 x3a.lt
  obtain ⟨cx3ba, cx3bb⟩ := x3b.c2
  obtain ⟨lx3ba, lx3bb, lx3bc, lx3bd⟩ := lts1 x3b.lt
  have nfx1_0_0 : ¬ w.heap.size = w.heap.size + 1 + 1 := by omega
  have nex1_0_0 : ¬ w.heap.size = w.heap.size + 2 := by omega
  have nfx1_1_0 : ¬ w.heap.size + 1 = w.heap.size + 1 + 1 := by omega
  have nex1_1_0 : ¬ w.heap.size = w.heap.size + 1 := by omega
  have nfx2_0_0 : ¬ w1.heap.size = w.heap.size + 1 + 1 := by omega
  have nex2_0_0 : ¬ w1.heap.size = w.heap.size + 2 := by omega
  have nfx2_1_0 : ¬ w1.heap.size + 1 = w.heap.size + 1 + 1 := by omega
  have nex2_1_0 : ¬ w1.heap.size = w.heap.size + 1 := by omega
  have nfx3_0_0 : ¬ w2.heap.size = w.heap.size + 1 + 1 := by omega
  have nex3_0_0 : ¬ w2.heap.size = w.heap.size + 2 := by omega
  have nfx3_1_0 : ¬ w2.heap.size + 1 = w.heap.size + 1 + 1 := by omega
  have nex3_1_0 : ¬ w2.heap.size = w.heap.size + 1 := by omega
  go_region_held3 (fun w' => SeesX w3.heap.size (w.heap.size + 1 + 1) w3 w') (first | with_reducible exact SeesX.of (Nat.le_refl _) (by assumption) | with_reducible exact SeesX.of (Nat.le_refl _) (brefl _).drew | with_reducible exact (SeesX.set (SeesX.set (SeesX.set (SeesX.of (Nat.le_refl _) (by assumption))))) | with_reducible exact (SeesX.set (SeesX.set (SeesX.of (Nat.le_refl _) (by assumption)))) | with_reducible exact (SeesX.set (SeesX.of (Nat.le_refl _) (by assumption))) | exact SeesX.of (Nat.le_refl _) (below_drewN (brefl _) 1) | exact SeesX.of (Nat.le_refl _) (below_drewN (by assumption) _))
    (first
      | (go_at_call 112; (with_reducible refine (r01_mul _ b1 A1 n1 c1 ((q).num) ((k)) ?_ b'2 A'2 n'2 c'2 (((q').den : Int)) ((k')) ?_ ?_).mono ?_); (exact h1.iz); (exact h'2.iz); (first | omega | decide | assumption); rintro e w4 ⟨b4, A4, n4, c4, rfl, h4, hb4⟩; replace hb4 := bnext (below_drewN (brefl _) 1) hb4; have q4 : Below w3.heap.size w3 w4 := bnext (brefl w3) hb4; replace h := h.belw hb4; replace h' := h'.belw hb4; replace h1 := h1.belw hb4; replace h'1 := h'1.belw hb4; replace h2 := h2.belw hb4; replace h'2 := h'2.belw hb4)
      | (go_at_call 112; (with_reducible refine (r01_mul _ b'1 A'1 n'1 c'1 (((q).den : Int)) ((k)) ?_ b2 A2 n2 c2 ((q').num) ((k')) ?_ ?_).mono ?_); (exact h'1.iz); (exact h2.iz); (first | omega | decide | assumption); rintro e w5 ⟨b5, A5, n5, c5, rfl, h5, hb5⟩; have q5 : Below w3.heap.size w3 w5 := bnext q4 hb5; replace h := h.belw hb5; replace h' := h'.belw hb5; replace h1 := h1.belw hb5; replace h'1 := h'1.belw hb5; replace h2 := h2.belw hb5; replace h'2 := h'2.belw hb5; replace h4 := h4.belw hb5)
      | (go_at_call 29; (with_reducible refine (g_from_0 _ b4 A4 n4 c4 (((q).num) * (((q').den : Int))) (((k)) + ((k'))) ?_ b5 A5 n5 c5 ((((q).den : Int)) * ((q').num)) (((k)) + ((k'))) ?_  ?_ ?_).mono ?_); (exact h4.iz); (exact h5.iz); (exact HD.out); (omega); rintro e w6 ⟨b6, A6, n6, c6, A'6, n'6, c'6, rfl, h6, hb6⟩; have q6 : Below w3.heap.size w3 w6 := bnext q5 hb6; replace h := h.belw hb6; replace h' := h'.belw hb6; replace h1 := h1.belw hb6; replace h'1 := h'1.belw hb6; replace h2 := h2.belw hb6; replace h'2 := h'2.belw hb6; replace h4 := h4.belw hb6; replace h5 := h5.belw hb6; have x1c := x1c.b q6; obtain ⟨cx1ca, cx1cb, cx1cc⟩ := x1c.c3; obtain ⟨fx1ca, fx1cb, fx1cc⟩ := x1c.f3))
  have bw6 := bw3.trans (q6.mono bw3.size)
  clear lx1aa lx1ab lx1ac lx1ad lx1ba lx1bb lx1bc lx1bd cx1ca fx1ca cx1cb fx1cb cx1cc fx1cc lx1ca lx1cb lx1cc lx1cd cx2aa cx2ab lx2aa lx2ab lx2ac lx2ad cx2ba cx2bb lx2ba lx2bb lx2bc lx2bd cx3aa cx3ab lx3aa lx3ab lx3ac lx3ad cx3ba cx3bb lx3ba lx3bb lx3bc lx3bd
  replace x1a := x1a.b q6
  replace x1b := x1b.b q6
  replace x2a := x2a.b q6
  replace x2b := x2b.b q6
  replace x3a := x3a.b q6
  replace x3b := x3b.b q6
  have lw6 := q6.size
  obtain ⟨cx1ca, cx1cb, cx1cc⟩ := x1c.c3
  obtain ⟨fx1ca, fx1cb, fx1cc⟩ := x1c.f3
  go_wp2_with fail
  refine bodyPost_ret (v := .tuple #[.agg #[.bool b6, .slice A6 n6 c6, .slice A'6 n'6 c'6], .int .i64 8]) (by simp [results, Tryz.results61, go_sem, *] <;> first | rfl | exact ⟨rfl, rfl⟩) rfl ?_
  exact ⟨b6, A6, n6, c6, A'6, n'6, c'6, rfl, h6.keep ((((Kp.refl w6).sb (w.heap.size + 1 + 1) 0 x1c.box (by decide) (.bool b6)).sb (w.heap.size + 1 + 1) 1 (x1c.box.set ⟨w.heap.size + 1 + 1, 0, none⟩ (.bool b6)) (by decide) (.slice A6 n6 c6)).sb (w.heap.size + 1 + 1) 2 ((x1c.box.set ⟨w.heap.size + 1 + 1, 0, none⟩ (.bool b6)).set ⟨w.heap.size + 1 + 1, 1, none⟩ (.slice A6 n6 c6)) (by decide) (.slice A'6 n'6 c'6)), (((bw6.sc (w.heap.size + 1 + 1) 0 (by omega) (.bool b6)).sc (w.heap.size + 1 + 1) 1 (by omega) (.slice A6 n6 c6)).sc (w.heap.size + 1 + 1) 2 (by omega) (.slice A'6 n'6 c'6))⟩
theorem g_floor (w : World) (b : Bool) (A : Option Addr) (n c : Nat) (D : Option Addr) (m e : Nat) (q : Rat) (k : Nat) (h : QZ w b A n c D m e q k) (h0 : 0 < k) (hk : k ≤ 40000000) :
  Calls Tryz.prog 52 #[.agg #[.bool b, .slice A n c, .slice D m e]] w (RetI w (floorQ q) (k + k)) := by
 go_enter Tryz.func52, Tryz.ntmps52
 go_wp2_with fail
 (with_reducible refine (g_parts _ b A n c D m e (q) (k) ?_ ?_ ?_).mono ?_); (exact (h.belw (((Below.refl _ _).alloc (Nat.le_refl _) _).alloc (by simp) _))); (first | omega | decide | assumption); (first | omega | decide | assumption); rintro e w1 ⟨b1, A1, n1, c1, b'1, A'1, n'1, c'1, rfl, h1, h'1, hb1⟩
 have q1 := (((Below.refl _ _).alloc (Nat.le_refl _) _).alloc (by simp) _).trans (hb1.mono (by simp <;> omega))
 replace h := h.belw q1
 have x1a : Blk w1 w.heap.size 24 #[.bool b, .slice A n c, .slice D m e] := ((blkAt _ _ _ (by simp)).alloc _).below hb1 (by simp <;> omega)
 have x1b := (blkAt _ _ _ (g := w.heap.size + 1) (by simp)).below hb1 (by simp)
 have bw1 := (brefl w).trans (q1.mono (brefl w).size)
 have lw1 : w.heap.size + 2 ≤ w1.heap.size := by have := hb1.size; simp at this; omega
 clear q1
 go_wp2_with fail
 (with_reducible refine (r01_div_z _ b1 A1 n1 c1 ((q).num) ((k)) ?_ b'1 A'1 n'1 c'1 (((q).den : Int)) ((k)) ?_ ?_ ?_).mono ?_); (exact (h1.belw (((Below.refl _ _).alloc (Nat.le_refl _) _).alloc (by simp) _)).iz); (exact (h'1.belw (((Below.refl _ _).alloc (Nat.le_refl _) _).alloc (by simp) _)).iz); (omega); (exact den_ne _); rintro e w2 ⟨b2, A2, n2, c2, b'2, A'2, n'2, c'2, rfl, h2, h'2, hb2⟩
 have q2 := (((Below.refl _ _).alloc (Nat.le_refl _) _).alloc (by simp) _).trans (hb2.mono (by simp <;> omega))
 replace h := h.belw q2
 replace h1 := h1.belw q2
 replace h'1 := h'1.belw q2
 replace x1a := x1a.b q2
 replace x1b := x1b.b q2
 have x2a : Blk w2 w1.heap.size 46 #[.bool b1, .slice A1 n1 c1] := ((blkAt _ _ _ (by simp)).alloc _).below hb2 (by simp <;> omega)
 have x2b := (blkAt _ _ _ (g := w1.heap.size + 1) (by simp)).below hb2 (by simp)
 have bw2 := bw1.trans (q2.mono bw1.size)
 have lw2 : w1.heap.size + 2 ≤ w2.heap.size := by have := hb2.size; simp at this; omega
 clear q2 bw1
 obtain ⟨cx1ba, cx1bb⟩ := x1b.c2
 obtain ⟨fx1ba, fx1bb⟩ := x1b.f2
 obtain ⟨lx1ba, lx1bb, lx1bc, lx1bd⟩ := lts1 x1b.lt
 go_wp2_with fail
 refine bodyPost_ret (v := .agg #[.bool b2, .slice A2 n2 c2]) (by simp [results, Tryz.results52, go_sem, *] <;> first | rfl | exact ⟨rfl, rfl⟩) rfl ?_
 exact ⟨b2, A2, n2, c2, rfl, h2.keep (((((Kp.refl w2).sb (w.heap.size + 1) 0 x1b.box (by decide) (.bool b2)).sb (w.heap.size + 1) 1 (x1b.box.set ⟨w.heap.size + 1, 0, none⟩ (.bool b2)) (by decide) (.slice A2 n2 c2)).alloc (.cells #[.bool b2, .slice A2 n2 c2] 46)).alloc (.cells #[.bool b'2, .slice A'2 n'2 c'2] 46)), ((((bw2.sc (w.heap.size + 1) 0 (by omega) (.bool b2)).sc (w.heap.size + 1) 1 (by omega) (.slice A2 n2 c2)).alloc (by first | omega | (simp <;> omega)) (.cells #[.bool b2, .slice A2 n2 c2] 46)).alloc (by first | omega | (simp <;> omega)) (.cells #[.bool b'2, .slice A'2 n'2 c'2] 46))⟩
theorem g_bits (w : World) (b : Bool) (A : Option Addr) (n c : Nat) (D : Option Addr) (m e : Nat) (q : Rat) (k : Nat) (h : QZ w b A n c D m e q k) (h0 : 0 < k) (hk : k ≤ 40000000) :
    Calls Tryz.prog 54 #[.agg #[.bool b, .slice A n c, .slice D m e]] w (RetV w (.int .i64 ((blen q.num.natAbs + blen q.den : Nat) : Int))) := by
  have hs := h.sz h0
  have hb1 : blen q.num.natAbs ≤ 32 * 40000000 := blen_max hk hs.1
  have hb2 : blen q.den ≤ 32 * 40000000 := blen_max hk hs.2
  clear hs
  go_enter Tryz.func54, Tryz.ntmps54
  go_wp2_with fail
  (with_reducible refine (g_parts _ b A n c D m e (q) (k) ?_ ?_ ?_).mono ?_); (exact (h.belw ((Below.refl _ _).alloc (Nat.le_refl _) _))); (first | omega | decide | assumption); (first | omega | decide | assumption); rintro e w1 ⟨b1, A1, n1, c1, b'1, A'1, n'1, c'1, rfl, h1, h'1, hb1⟩
  have q1 := ((Below.refl _ _).alloc (Nat.le_refl _) _).trans (hb1.mono (by simp))
  replace h := h.belw q1
  have x1a : Blk w1 w.heap.size 24 #[.bool b, .slice A n c, .slice D m e] := (blkAt _ _ _ (by simp)).below hb1 (by simp)
  have bw1 := (brefl w).trans (q1.mono (brefl w).size)
  have lw1 : w.heap.size + 1 ≤ w1.heap.size := by have := hb1.size; simp at this; omega
  clear q1
  go_wp2_with fail
  have p2 := (((Kp.refl w1).alloc (.cells #[.bool b1, .slice A1 n1 c1] 46)).alloc (.cells #[.bool b'1, .slice A'1 n'1 c'1] 46))
  have bw2 := ((bw1.alloc (by first | omega | (simp <;> omega)) (.cells #[.bool b1, .slice A1 n1 c1] 46)).alloc (by first | omega | (simp <;> omega)) (.cells #[.bool b'1, .slice A'1 n'1 c'1] 46))
  have x2a : Blk ((w1.alloc (.cells #[.bool b1, .slice A1 n1 c1] 46)).alloc (.cells #[.bool b'1, .slice A'1 n'1 c'1] 46)) w1.heap.size 46 #[.bool b1, .slice A1 n1 c1] := ((blkAt _ _ _ (by simp)).alloc (.cells #[.bool b'1, .slice A'1 n'1 c'1] 46))
  have x2b : Blk ((w1.alloc (.cells #[.bool b1, .slice A1 n1 c1] 46)).alloc (.cells #[.bool b'1, .slice A'1 n'1 c'1] 46)) (w1.heap.size + 1) 46 #[.bool b'1, .slice A'1 n'1 c'1] := (blkAt _ _ _ (by simp))
  replace x1a := ((x1a.alloc (.cells #[.bool b1, .slice A1 n1 c1] 46)).alloc (.cells #[.bool b'1, .slice A'1 n'1 c'1] 46))
  have lw2 : w1.heap.size + 2 ≤ ((w1.alloc (.cells #[.bool b1, .slice A1 n1 c1] 46)).alloc (.cells #[.bool b'1, .slice A'1 n'1 c'1] 46)).heap.size := by simp
  generalize hE2 : ((w1.alloc (.cells #[.bool b1, .slice A1 n1 c1] 46)).alloc (.cells #[.bool b'1, .slice A'1 n'1 c'1] 46)) = w2 at p2 bw2 lw2 x2a x2b x1a ⊢
  clear hE2
  replace h := h.keep p2
  replace h1 := h1.keep p2
  replace h'1 := h'1.keep p2
  clear bw1
  obtain ⟨lx1aa, lx1ab, lx1ac, lx1ad⟩ := lts0 x1a.lt
  obtain ⟨cx2aa, cx2ab⟩ := x2a.c2
  obtain ⟨lx2aa, lx2ab, lx2ac, lx2ad⟩ := lts0 x2a.lt
  obtain ⟨cx2ba, cx2bb⟩ := x2b.c2
  obtain ⟨lx2ba, lx2bb, lx2bc, lx2bd⟩ := lts1 x2b.lt
  go_region_held3 (fun w' => Sees w2.heap.size w2 w') (first | with_reducible exact Sees.of (Nat.le_refl _) (by assumption) | with_reducible exact Sees.of (Nat.le_refl _) (brefl _).drew | exact Sees.of (Nat.le_refl _) (below_drewN (brefl _) 1) | exact Sees.of (Nat.le_refl _) (below_drewN (by assumption) _))
    (first
      | (go_at_call 116; (with_reducible refine (r01_bits _ b1 A1 n1 c1 ((q).num) ((k)) ?_ ?_).mono ?_); (exact h1.iz); (first | omega | decide | assumption); rintro e w3 ⟨rfl, hb3⟩; replace hb3 := bnext (below_drewN (brefl _) 1) hb3; have q3 : Below w2.heap.size w2 w3 := bnext (brefl w2) hb3; replace h := h.belw hb3; replace h1 := h1.belw hb3; replace h'1 := h'1.belw hb3)
      | (go_at_call 116; (with_reducible refine (r01_bits _ b'1 A'1 n'1 c'1 (((q).den : Int)) ((k)) ?_ ?_).mono ?_); (exact h'1.iz); (first | omega | decide | assumption); rintro e w4 ⟨rfl, hb4⟩; have q4 : Below w2.heap.size w2 w4 := bnext q3 hb4; replace h := h.belw hb4; replace h1 := h1.belw hb4; replace h'1 := h'1.belw hb4))
  have bw4 := bw2.trans (q4.mono bw2.size)
  clear lx1aa lx1ab lx1ac lx1ad cx2aa cx2ab lx2aa lx2ab lx2ac lx2ad cx2ba cx2bb lx2ba lx2bb lx2bc lx2bd
  replace x1a := x1a.b q4
  replace x2a := x2a.b q4
  replace x2b := x2b.b q4
  have lw4 := q4.size
  go_wp2_with fail
  have ew : IntKind.i64.wrap ((blen q.num.natAbs : Nat) + (blen q.den : Nat) : Int) = ((blen q.num.natAbs : Nat) + (blen q.den : Nat) : Int) := IntWalk.i64_in _ ⟨by omega, by omega⟩
  go_ret
  exact retI (by simp [ew]) bw4
end Go.Proofs.YtkpjhmpjihchpaaGreatDoor

/- Texts of integers by their values; errors as numbers. -/
namespace Go.Proofs.YtkpjhmpjihchpaaGreatDoor
open Go Go.RowKit Bn

theorem b_num_nil (w : World) : Calls Tryz.prog 21 #[.nilIface] w (RetV w (.int .i64 0)) := by
 go_enter Tryz.func21, Tryz.ntmps21
 go_wp2
 go_ret
 exact ⟨rfl, brefl w⟩
theorem run_as_err (x : Int) (w : World) : (Instr.typeAssert (.iface 77 (.int .i64 x)) 30 77 true).run Tryz.prog w = .ok (.tuple #[.int .i64 x, .bool true]) w := by
  simp [Instr.typeAssert, run_underlying Tryz.underlying77]
theorem b_num_err (w : World) (x : Int) : Calls Tryz.prog 21 #[.iface 77 (.int .i64 x)] w (RetV w (.int .i64 x)) := by
 go_enter Tryz.func21, Tryz.ntmps21
 have hr := run_as_err x
 go_wp2
 go_ret
 exact ⟨rfl, brefl w⟩
theorem i_text_l (w : World) (b : Bool) (A : Option Addr) (n c : Nat) (z : Int) (k : Nat) (h : IZ w b A n c z k) (T : List UInt8) (hk : k ≤ 1000000000) (ht : Tab w) (hT : Lib.itoa z = T) : Calls Tryz.prog 87 #[.agg #[.bool b, .slice A n c]] w (RetV w (strV T)) := by
  subst hT
  obtain ⟨l, h1, rfl, h3⟩ := h
  exact text_C w b A n c l h1 (by omega) ht
theorem i_cmp_w (w : World) (b : Bool) (A : Option Addr) (n c : Nat) (z : Int) (k : Nat) (h : IZ w b A n c z k) (b' : Bool) (A' : Option Addr) (n' c' : Nat) (z' : Int) (k' : Nat) (h' : IZ w b' A' n' c' z' k') (v : Int) (hv : cmpI z z' = v) (hk : k + k' ≤ 1000000000) : Calls Tryz.prog 59 #[.agg #[.bool b, .slice A n c], .agg #[.bool b', .slice A' n' c']] w (RetV w (.int .i64 v)) := by
  subst hv; exact i_cmp w b A n c z k h b' A' n' c' z' k' h' hk
end Go.Proofs.YtkpjhmpjihchpaaGreatDoor

/- Walks: linkworkref01.Root. -/
namespace Go.Proofs.YtkpjhmpjihchpaaGreatDoor
open Go Go.RowKit Bn

def rootN (z : Int) : Value := if z < 0 then .int .i64 3 else .int .i64 0
def RBitI (M K : Nat) (W0 wr : World) (x iv : Value) : Prop := ∃ A1 n1 c1 R j, x = .slice A1 n1 c1 ∧ iv = .int .i64 ((j : Nat) - 1) ∧ j ≤ K ∧ Kept (Wd wr A1 n1 c1 (digs R) ∧ RootI M R j) ∧ Below W0.heap.size W0 wr
theorem cmpN_le0 {a b : Nat} : (cmpN a b ≤ 0) = (a ≤ b) := by
  unfold cmpN
  apply propext
  (repeat' split) <;> omega
theorem digs_mul_n {w w1 w2 : World} {A : Option Addr} {n c u v : Nat} (h : Wd w A n c (digs (u * v))) {A' : Option Addr} {n' c' : Nat} (h' : Wd w1 A' n' c' (digs u)) {A2 : Option Addr} {n2 c2 : Nat} (h2 : Wd w2 A2 n2 c2 (digs v)) : n ≤ n' + n2 := by
  rw [h.2.1]
  apply length_digs_le
  have h3 := h'.vlt (Nat.le_refl _)
  have h4 := h2.vlt (Nat.le_refl _)
  rw [val_digs] at h3 h4
  rw [Nat.pow_add]
  exact Nat.mul_lt_mul'' h3 h4
theorem r_compare_k (w : World) (A : Option Addr) (n c x : Nat) (wa : Wd w A n c (digs x)) (hn : n ≤ 1099511627776) (A' : Option Addr) (n' c' y : Nat) (wb : Wd w A' n' c' (digs y)) (hn' : n' ≤ 1099511627776) (k : Int) (hk : cmpN x y = k) :
    Calls Tryz.prog 152 #[.slice A n c, .slice A' n' c'] w (RetV w (.int .i64 k)) := by
  have := r_compare_c w A n c (digs x) wa hn A' n' c' (digs y) wb hn'
  rw [val_digs, val_digs, hk] at this
  exact this
theorem r_plus_k (w : World) (A : Option Addr) (n c x : Nat) (wa : Wd w A n c (digs x)) (hn : n ≤ 1099511627776) (A' : Option Addr) (n' c' y : Nat) (wb : Wd w A' n' c' (digs y)) (hn' : n' ≤ 1099511627776) :
    Calls Tryz.prog 147 #[.slice A n c, .slice A' n' c'] w (RetL w (digs (x + y))) := by
  have := r_plus_c w A n c (digs x) wa hn A' n' c' (digs y) wb hn'
  rw [val_digs, val_digs] at this
  exact this
theorem r_times_k (w : World) (A : Option Addr) (n c x : Nat) (wa : Wd w A n c (digs x)) (hn : n ≤ 1099511627776) (A' : Option Addr) (n' c' y : Nat) (wb : Wd w A' n' c' (digs y)) (hn' : n' ≤ 1099511627776) :
    Calls Tryz.prog 148 #[.slice A n c, .slice A' n' c'] w (RetL w (digs (x * y))) := by
  have := r_times_c w A n c (digs x) wa hn A' n' c' (digs y) wb hn'
  rw [val_digs, val_digs] at this
  exact this
theorem r_root_C (w : World) (b : Bool) (A : Option Addr) (n c : Nat) (l : List Nat) (k : Nat) (wa : Wd w A n c l) (hk : n ≤ k) (hn : k ≤ 1000000000) :
  Calls Tryz.prog 155 #[.agg #[.bool b, .slice A n c]] w (RetIe w (rootN (WD.z ⟨b, l⟩)) (rootZ (WD.z ⟨b, l⟩)) k) := by
 have hzlt : (rootZ (WD.z ⟨b, l⟩)).natAbs < 4294967296 ^ k := root_lt (WD.z_lt wa hk)
 have HL := Lib.hid wa.2.1
 have HZL := Lib.hid hzlt
 have hcm : Canon (WD.m ⟨b, l⟩) := WD.canon_m wa.1
 obtain ⟨M, hM⟩ : ∃ M, WD.m ⟨b, l⟩ = digs M := ⟨_, (digs_val hcm).symm⟩
 have hze := WD.z_eq ⟨b, l⟩
 rw [hM, val_digs] at hze
 obtain ⟨Z, hZ⟩ : ∃ Z, WD.z ⟨b, l⟩ = Z := ⟨_, rfl⟩
 rw [hZ] at hze hzlt ⊢
 have HZ := Lib.hid hZ
 have HM := Lib.hid hM
 have b1 : Below w.heap.size w ((w.alloc (.cells #[.bool b, .slice A n c] 46)).alloc (.cells #[.bool false, .slice none 0 0] 46)) := ((Below.refl _ _).alloc (Nat.le_refl _) _).alloc (by simp) _
 have x1 : Blk ((w.alloc (.cells #[.bool b, .slice A n c] 46)).alloc (.cells #[.bool false, .slice none 0 0] 46)) w.heap.size 46 #[.bool b, .slice A n c] := (blkAt _ _ _ rfl).alloc _
 have y1 : Blk ((w.alloc (.cells #[.bool b, .slice A n c] 46)).alloc (.cells #[.bool false, .slice none 0 0] 46)) (w.heap.size + 1) 46 #[.bool false, .slice none 0 0] := blkAt _ _ _ (by simp)
 clear hzlt hM hcm hZ
 cases hs : WD.s ⟨b, l⟩ with
 | true =>
  have HS := Lib.hid hs
  rw [hs] at hze
  have hMp : 0 < M := by
   rcases Nat.eq_zero_or_pos M with e | e
   ·exfalso
    have h1 := HM.out
    rw [e, digs_zero] at h1
    unfold WD.s at hs
    unfold WD.m at h1
    cases ho : WD.ok ⟨b, l⟩
    ·rw [ho] at hs; exact absurd hs (by simp)
    ·rw [ho] at hs h1
     simp only [if_true] at h1
     simp only [Bool.true_and] at hs
     subst hs
     subst h1
     exact absurd ho (by decide)
   ·exact e
  have hZn : Z < 0 := by rw [hze]; simp [sgn]; omega
  have hRE : rootN Z = .int .i64 3 := by unfold rootN; rw [if_pos hZn]
  have hRZ : rootZ Z = 0 := by unfold rootZ; rw [if_pos hZn]
  rw [hRE, hRZ]
  clear hRE hRZ hZn hze hMp hs
  go_enter Tryz.func155, Tryz.ntmps155
  go_wp2_with (go_at_call 135; (with_reducible refine (r_neg_e _ b A n c l true ?_ ?_ HS.out).mono ?_); (exact wa.belw b1); (omega); rintro e w2 ⟨rfl, hb2⟩; have x2 := x1.below hb2 x1.lt; have y2 := y1.below hb2 y1.lt; obtain ⟨cx0, cx1⟩ := x2.c2; obtain ⟨cy0, cy1⟩ := y2.c2; obtain ⟨fy0, fy1⟩ := y2.f2)
  refine bodyPost_ret (v := .tuple #[.agg #[.bool false, .slice none 0 0], .int .i64 3]) (by simp [results, Tryz.results155, go_sem, *] <;> first | rfl | exact ⟨rfl, rfl⟩) rfl ?_
  exact ⟨_, _, _, _, rfl, IV.zero _ _, ((b1.trans (hb2.mono b1.size)).setCell (by dsimp only; omega) _).setCell (by dsimp only; omega) _⟩
 | false =>
  have HS := Lib.hid hs
  rw [hs] at hze
  have hZM : Z = M := by rw [hze]; rfl
  have hZn : ¬ Z < 0 := by omega
  have hRE : rootN Z = .int .i64 0 := by unfold rootN; rw [if_neg hZn]
  have hRZ : rootZ Z = (isq M : Nat) := by unfold rootZ; rw [if_neg hZn, show Z.natAbs = M by omega]
  rw [hRE, hRZ]
  have HR := Lib.hid hRZ
  clear hRE hRZ hZn hze hs
  obtain ⟨N, hN⟩ : ∃ N, blen M = N := ⟨_, rfl⟩
  have hN2 : N ≤ 32 * 1000000000 := by rw [← hN]; exact blen_max (Nat.le_trans hk hn) (by have := WD.z_lt (b := b) wa (Nat.le_refl n); rw [HZ.out, hZM] at this; simpa using this)
  obtain ⟨J, hJ⟩ : ∃ J, N / 2 = J := ⟨_, rfl⟩
  have e3 : (N : Int) / 2 = (J : Int) := by omega
  have HN := Lib.hid hN
  have HJ := Lib.hid hJ
  have hJ2 : J ≤ 16 * 1000000000 := by omega
  clear hN hJ
  go_enter Tryz.func155, Tryz.ntmps155
  go_wp2_with (first
   | (go_at_call 135; (with_reducible refine (r_neg_e _ b A n c l false ?_ ?_ HS.out).mono ?_); (exact wa.belw b1); (omega); rintro e w2 ⟨rfl, hb2⟩; have x2 := x1.below hb2 x1.lt; have y2 := y1.below hb2 y1.lt; have b2 := b1.trans (hb2.mono b1.size); obtain ⟨cx0, cx1⟩ := x2.c2)
   | (go_at_call 134; (with_reducible refine (r_mag_c _ b A n c l ?_ ?_).mono ?_); (exact wa.belw b2); (omega); rintro e w3 ⟨A1, n1, c1, rfl, h1, hb3⟩; have hn1 : n1 ≤ k := h1.m_len (by rw [← HL.out]; exact hk); rw [HM.out] at h1; have b3 := b2.trans (hb3.mono b2.size); have y3 := y2.below hb3 y2.lt)
   | (go_at_call 157; (with_reducible refine (r_bits_x _ A1 n1 c1 (digs M) h1 ?_ (canon_digs _)).mono ?_); (omega); rw [val_digs, HN.out]; rintro e w4 ⟨rfl, hb4⟩; have b4 := b3.trans (hb4.mono b3.size); have y4 := y3.below hb4 y3.lt; have h4 := h1.belw hb4))
  have hat : RBitI M (J + 1) w4 w4 (.slice none 0 0) (.int .i64 (J : Nat)) := ⟨_, _, _, 0, J + 1, rfl, by congr 1; omega, Nat.le_refl _, ⟨by rw [digs_zero]; exact Wd.nil_ _, by rw [← HJ.out]; exact RootI.start (by rw [← HN.out]; exact lt_blen M)⟩, brefl _⟩
  clear cx0 cx1 e3
  go_loopw [5, 6] (fun xv iv wr => RBitI M (J + 1) w4 wr xv iv) (fun _ iv _ => (intOf iv + 1).toNat)
  case atStart => exact hat
  case round =>
   obtain ⟨A5, n5, c5, R, j, rfl, rfl, hj, hK, rr⟩ := hrel
   have h6 := h4.belw rr
   have y6 := y4.below rr y4.lt
   by_cases hj0 : j = 0
   ·subst hj0
    have HF := Lib.hid (RootI.fin hK.2)
    have hn5 : n5 ≤ k := digs_n hK.1 (by have := hK.2.1; exact Nat.le_trans (Nat.le_mul_self R) this) h6 hn1
    have HK := Lib.hid hK.1
    clear hK
    go_wp2_with (go_at_call 133; (with_reducible refine (r_form_e _ false A5 n5 c5 (digs R) (isq M : Nat) ?_ ?_ ?_).mono ?_); (exact HK.out); omega; (rw [val_digs, HF.out]; rfl); rintro e w11 ⟨A11, n11, c11, rfl, h12, hb11⟩; have y11 := y6.below hb11 y6.lt; obtain ⟨cy0, cy1⟩ := y11.c2; obtain ⟨fy0, fy1⟩ := y11.f2)
    have bt := (b4.trans (rr.mono b4.size)).trans (hb11.mono (Nat.le_trans b4.size rr.size))
    refine bodyPost_ret (v := .tuple #[.agg #[.bool _, .slice A11 n11 c11], .int .i64 0]) (by simp [results, Tryz.results155, go_sem, *] <;> first | rfl | exact ⟨rfl, rfl⟩) rfl ?_
    refine ⟨_, _, _, _, rfl, (IV.mk_ (h12.keep (kp2 ⟨_, _, y11⟩ (by decide) _ _ _ _)) rfl ?_), (bt.setCell (by dsimp only; omega) _).setCell (by dsimp only; omega) _⟩
    rw [← HR.out, ← HZ.out]
    exact HZL.out
   ·obtain ⟨t, rfl⟩ : ∃ t, j = t + 1 := ⟨j - 1, by omega⟩
    obtain ⟨i, hi⟩ : ∃ i, t / 32 = i := ⟨_, rfl⟩
    obtain ⟨s, hs⟩ : ∃ s, t % 32 = s := ⟨_, rfl⟩
    have hs32 : s < 32 := by omega
    have hi2 : i ≤ 500000000 := by omega
    have e2 : ((t + 1 : Nat) : Int) - 1 = (t : Int) := by omega
    have e4 : (t : Int) / 32 = (i : Int) := by omega
    have e5 : (t : Int) % 32 = (s : Int) := by omega
    obtain ⟨X, hX⟩ : ∃ X, R + 2 ^ t = X := ⟨_, rfl⟩
    have hn5 : n5 ≤ k := digs_n hK.1 (by have := hK.2.1; exact Nat.le_trans (Nat.le_mul_self R) this) h6 hn1
    have HI := Lib.hid (And.intro hi hs)
    have HX := Lib.hid hX
    clear hi hs hX hj0
    have b6 : Below wr.heap.size wr (wr.alloc (.cells ((cellsOf (List.replicate (i + 1) 0)).setIfInBounds i (.int .u32 (2 ^ s % 4294967296))) 102)) := (Below.refl _ _).alloc (Nat.le_refl _) _
    have HW6 : Hid (Wd (wr.alloc (.cells ((cellsOf (List.replicate (i + 1) 0)).setIfInBounds i (.int .u32 (2 ^ s % 4294967296))) 102)) (some ⟨wr.heap.size, 0, none⟩) (i + 1) (i + 1) (digs (2 ^ t))) := Lib.hid (by
     obtain ⟨h5, hs6⟩ := root_first HI.out.1 HI.out.2
     have hl6 : (digs (2 ^ t)).length = i + 1 := by rw [← h5]; simp
     have z6 : Blk (wr.alloc (.cells ((cellsOf (List.replicate (i + 1) 0)).setIfInBounds i (.int .u32 (2 ^ s % 4294967296))) 102)) wr.heap.size 102 (cellsOf (digs (2 ^ t))) := by
      rw [← h5, ← cellsOf_set]
      have : (2 ^ s % 4294967296 : Int) = ((2 ^ s : Nat) : Int) := by
       have hh : ((2 : Int) ^ s) = ((2 ^ s : Nat) : Int) := by simp
       rw [hh]
       clear hh
       generalize 2 ^ s = p at hs6 ⊢
       omega
      rw [this]
      exact Blk.new _ _ _
     have w6 := z6.wd_ (canon_digs (2 ^ t)).1
     rw [hl6] at w6
     exact w6)
    obtain ⟨kk, hkk⟩ : ∃ kk, cmpN (X * X) M = kk := ⟨_, rfl⟩
    have HKK := Lib.hid hkk
    by_cases hle : X * X ≤ M
    ·have e7 : (kk ≤ 0) = True := by rw [← hkk, cmpN_le0]; simpa using hle
     have HLE := Lib.hid (RootI.yes hK.2 (by rw [HX.out]; exact hle))
     clear hkk hle
     go_wp2_with (first
      | (at_make; refine wpList_make_words _ rfl _ _ rfl _ _ _ _ (i + 1) rfl rfl (by omega) (by omega) (by omega) ?_; have z5 := Blk.new wr 102 (cellsOf (List.replicate (i + 1) 0)); have fz := z5.frozen i; have cz := z5.cell i; rw [cellsOf_get (by simp)] at cz)
      | (go_at_call 147; (with_reducible refine (r_plus_k _ A5 n5 c5 R ?_ ?_ (some ⟨wr.heap.size, 0, none⟩) (i + 1) (i + 1) (2 ^ t) ?_ ?_).mono ?_); (exact hK.1.belw b6); omega; (exact HW6.out); omega; rintro e w7 ⟨A7, n7, c7, rfl, h7, hb7⟩; have hn7 := digs_add_n h7 hK.1 HW6.out; rw [HX.out] at h7; have b7 := b6.trans (hb7.mono b6.size); clear z5 fz cz)
      | (go_at_call 148; (with_reducible refine (r_times_k _ A7 n7 c7 X ?_ ?_ A7 n7 c7 X ?_ ?_).mono ?_); (exact h7); omega; (exact h7); omega; rintro e w8 ⟨A8, n8, c8, rfl, h8, hb8⟩; have hn8 := digs_mul_n h8 h7 h7; have b8 := b7.trans (hb8.mono b7.size); have h7b := h7.belw hb8)
      | (go_at_call 152; (with_reducible refine (r_compare_k _ A8 n8 c8 (X * X) ?_ ?_ A1 n1 c1 M ?_ ?_ kk HKK.out).mono ?_); (exact h8); omega; (exact h6.belw b8); omega; rintro e w9 ⟨rfl, hb9⟩; have b9 := b8.trans (hb9.mono b8.size); have h7c := h7b.belw hb9))
     go_roundw
     case rel => exact ⟨A7, n7, c7, X, t, rfl, by congr 1, by omega, ⟨h7c, by rw [← HX.out]; exact HLE.out⟩, rr.trans (b9.mono rr.size)⟩
     case measure => simp [intOf]
    ·have e7 : (kk ≤ 0) = False := by rw [← hkk, cmpN_le0]; simpa using hle
     have HLE := Lib.hid (RootI.no hK.2 (by rw [HX.out]; exact hle))
     clear hkk hle
     go_wp2_with (first
      | (at_make; refine wpList_make_words _ rfl _ _ rfl _ _ _ _ (i + 1) rfl rfl (by omega) (by omega) (by omega) ?_; have z5 := Blk.new wr 102 (cellsOf (List.replicate (i + 1) 0)); have fz := z5.frozen i; have cz := z5.cell i; rw [cellsOf_get (by simp)] at cz)
      | (go_at_call 147; (with_reducible refine (r_plus_k _ A5 n5 c5 R ?_ ?_ (some ⟨wr.heap.size, 0, none⟩) (i + 1) (i + 1) (2 ^ t) ?_ ?_).mono ?_); (exact hK.1.belw b6); omega; (exact HW6.out); omega; rintro e w7 ⟨A7, n7, c7, rfl, h7, hb7⟩; have hn7 := digs_add_n h7 hK.1 HW6.out; rw [HX.out] at h7; have b7 := b6.trans (hb7.mono b6.size); clear z5 fz cz)
      | (go_at_call 148; (with_reducible refine (r_times_k _ A7 n7 c7 X ?_ ?_ A7 n7 c7 X ?_ ?_).mono ?_); (exact h7); omega; (exact h7); omega; rintro e w8 ⟨A8, n8, c8, rfl, h8, hb8⟩; have hn8 := digs_mul_n h8 h7 h7; have b8 := b7.trans (hb8.mono b7.size); have h7b := h7.belw hb8)
      | (go_at_call 152; (with_reducible refine (r_compare_k _ A8 n8 c8 (X * X) ?_ ?_ A1 n1 c1 M ?_ ?_ kk HKK.out).mono ?_); (exact h8); omega; (exact h6.belw b8); omega; rintro e w9 ⟨rfl, hb9⟩; have b9 := b8.trans (hb9.mono b8.size); have h7c := h7b.belw hb9))
     go_roundw
     case rel => exact ⟨A5, n5, c5, R, t, rfl, by congr 1, by omega, ⟨hK.1.belw b9, HLE.out⟩, rr.trans (b9.mono rr.size)⟩
     case measure => simp [intOf]
end Go.Proofs.YtkpjhmpjihchpaaGreatDoor

/- Walks: fractions: Root, Grid. -/
namespace Go.Proofs.YtkpjhmpjihchpaaGreatDoor
open Go Go.RowKit Bn
attribute [local go_sem ↓] Go.wp_at_zero Go.wp_at_succ
theorem IV.resz {w : World} {b : Bool} {A : Option Addr} {n c : Nat} {z : Int} {k K : Nat} (h : IV w b A n c z k) (hs : z.natAbs < 4294967296 ^ K) : IV w b A n c z K := IV.mk_ h.2.1 h.1 hs
theorem QV.resz {w : World} {b : Bool} {A : Option Addr} {n c : Nat} {D : Option Addr} {m e : Nat} {q : Rat} {k K : Nat} (h : QV w b A n c D m e q k) (hs : Sz q K) : QV w b A n c D m e q K := QV.mk_ h.2.1 h.2.2.1 h.1 hs
theorem RetFe.resz {w : World} {v : Value} {q : Rat} {k K : Nat} {e : Ending} {w' : World} (h : RetFe w v q k e w') (hs : Sz q K) : RetFe w v q K e w' := by
  obtain ⟨b, A, n, c, D, m, d, rfl, h, hb⟩ := h
  exact ⟨b, A, n, c, D, m, d, rfl, h.resz hs, hb⟩
def rtOk (z : Int) : Bool := decide (0 ≤ z) && decide (isq z.natAbs * isq z.natAbs = z.natAbs)
theorem rootOk_rt (q : Rat) : rootOk q = (rtOk q.num && rtOk (q.den : Int)) := by
  unfold rootOk rtOk
  simp only [Int.natAbs_natCast, Int.natCast_nonneg, decide_true, Bool.true_and]
theorem rootE_pos {z : Int} (h : 0 ≤ z) : rootE z = .nilIface := by unfold rootE; rw [if_neg (by omega)]
theorem rootZ_pos {z : Int} (h : 0 ≤ z) : rootZ z = (isq z.natAbs : Nat) := by unfold rootZ; rw [if_neg (by omega)]
theorem rootZ_neg {z : Int} (h : z < 0) : rootZ z = 0 := by unfold rootZ; rw [if_pos h]
theorem isq_ne {k : Nat} (h : k ≠ 0) (hs : isq k * isq k = k) : ((isq k : Nat) : Int) ≠ 0 := by
  intro e
  have : isq k = 0 := by omega
  rw [this] at hs
  omega
theorem cmp_sq0 {z : Int} (h : 0 ≤ z) (hs : isq z.natAbs * isq z.natAbs = z.natAbs) : cmpI (((isq z.natAbs : Nat) : Int) * ((isq z.natAbs : Nat) : Int)) z = 0 := by
  have : ((isq z.natAbs : Nat) : Int) * ((isq z.natAbs : Nat) : Int) = z := by
    rw [← Int.natCast_mul, hs]; omega
  rw [this]
  unfold cmpI
  rw [if_neg (by omega), if_pos rfl]
theorem cmp_sq1 {z : Int} (h : 0 ≤ z) (hs : ¬ isq z.natAbs * isq z.natAbs = z.natAbs) : cmpI (((isq z.natAbs : Nat) : Int) * ((isq z.natAbs : Nat) : Int)) z = -1 := by
  have h1 : isq z.natAbs * isq z.natAbs ≤ z.natAbs := isq_le _
  have : ((isq z.natAbs : Nat) : Int) * ((isq z.natAbs : Nat) : Int) < z := by
    rw [← Int.natCast_mul]; omega
  unfold cmpI
  rw [if_pos this]
theorem isq_lt {z : Int} {k : Nat} (h : z.natAbs < 4294967296 ^ k) : ((isq z.natAbs : Nat) : Int).natAbs < 4294967296 ^ k := by
  have h1 : isq z.natAbs * isq z.natAbs ≤ z.natAbs := isq_le _
  have h2 : isq z.natAbs ≤ z.natAbs := Nat.le_trans (by rcases Nat.eq_zero_or_pos (isq z.natAbs) with e | e; · rw [e]; omega
                                                        · exact Nat.le_mul_of_pos_left _ e) h1
  omega
theorem two_lt {t : Nat} (ht : t ≤ 256) : (((2 ^ t : Nat) : Int)).natAbs < 4294967296 ^ 9 := by
  have h1 : 2 ^ t ≤ 2 ^ 256 := Nat.pow_le_pow_right (by omega) ht
  have h2 : (2 : Nat) ^ 256 < 4294967296 ^ 9 := by decide
  rw [Int.natAbs_natCast]
  omega
theorem two_ne (t : Nat) : ((2 ^ t : Nat) : Int) ≠ 0 := by have := Nat.pow_pos (n := t) (show 0 < 2 by omega); omega
theorem f_two (w : World) (x : Int) (t : Nat) (hx : x = (t : Int)) (ht : t ≤ 256) : Calls Tryz.prog 108 #[.int .i64 x] w (RetI w ((2 ^ t : Nat) : Int) 9) := by
 subst hx
 have HT := Lib.hid (two_lt ht)
 obtain ⟨i, hi⟩ : ∃ i, t / 32 = i := ⟨_, rfl⟩
 obtain ⟨s, hs⟩ : ∃ s, t % 32 = s := ⟨_, rfl⟩
 have hs32 : s < 32 := by omega
 have hi2 : i ≤ 500000000 := by omega
 have e4 : (t : Int) / 32 = (i : Int) := by omega
 have e5 : (t : Int) % 32 = (s : Int) := by omega
 have HI := Lib.hid (And.intro hi hs)
 clear hi hs ht
 go_enter Tryz.func108, Tryz.ntmps108
 go_wp2_with (at_make; refine wpList_make_words _ rfl _ _ rfl _ _ _ _ (i + 1) rfl rfl (by omega) (by omega) (by omega) ?_; have z5 := blkAt (w.alloc (.cells #[.bool false, .slice none 0 0] 46)) (cellsOf (List.replicate (i + 1) 0)) 102 (g := w.heap.size + 1) (by simp); have fz := z5.frozen i; have cz := z5.cell i; rw [cellsOf_get (by simp)] at cz)
 refine bodyPost_ret (v := .agg #[.bool false, .slice (some ⟨w.heap.size + 1, 0, none⟩) (i + 1) (i + 1)]) (by simp [results, Tryz.results108, go_sem, *] <;> first | rfl | exact ⟨rfl, rfl⟩) rfl ?_
 refine ⟨_, _, _, _, rfl, IV.mk_ ?_ rfl HT.out, ((Below.refl _ _).alloc (Nat.le_refl _) _).alloc (by simp) _⟩
 obtain ⟨h5, hs6⟩ := root_first HI.out.1 HI.out.2
 have hl6 : (digs (2 ^ t)).length = i + 1 := by rw [← h5]; simp
 show Wd _ _ _ _ (digs (2 ^ t))
 have z6 := blkAt (w.alloc (.cells #[.bool false, .slice (some ⟨w.heap.size + 1, 0, none⟩) (i + 1) (i + 1)] 46)) (cellsOf (digs (2 ^ t))) 102 (g := w.heap.size + 1) (by simp)
 have e6 : (cellsOf (List.replicate (i + 1) 0)).setIfInBounds i (.int .u32 (2 ^ s % 4294967296)) = cellsOf (digs (2 ^ t)) := by
  rw [← h5, ← cellsOf_set]
  have : (2 ^ s % 4294967296 : Int) = ((2 ^ s : Nat) : Int) := by
   have hh : ((2 : Int) ^ s) = ((2 ^ s : Nat) : Int) := by simp
   rw [hh]
   clear hh
   generalize 2 ^ s = p at hs6 ⊢
   omega
  rw [this]
 rw [e6]
 have w6 := z6.wd_ (canon_digs (2 ^ t)).1
 rw [hl6] at w6
 exact w6
theorem i_cmp_v2 (w : World) (b : Bool) (A : Option Addr) (n c : Nat) (z : Int) (k : Nat) (h : IZ w b A n c z k) (b' : Bool) (A' : Option Addr) (n' c' : Nat) (z' : Int) (k' : Nat) (h' : IZ w b' A' n' c' z' k') (v : Int) (hv : cmpI z z' = v) (hk : k + k' ≤ 999999999) : Calls Tryz.prog 59 #[.agg #[.bool b, .slice A n c], .agg #[.bool b', .slice A' n' c']] w (RetV w (.int .i64 v)) := by
  subst hv; exact i_cmp w b A n c z k h b' A' n' c' z' k' h' (by omega)
theorem r01_cmp_v2 (w : World) (b : Bool) (A : Option Addr) (n c : Nat) (z : Int) (k : Nat) (h : IZ w b A n c z k) (b' : Bool) (A' : Option Addr) (n' c' : Nat) (z' : Int) (k' : Nat) (h' : IZ w b' A' n' c' z' k') (v : Int) (hv : cmpI z z' = v) (hk : k + k' ≤ 999999999) : Calls Tryz.prog 98 #[.agg #[.bool b, .slice A n c], .agg #[.bool b', .slice A' n' c']] w (RetV w (.int .i64 v)) := by
  subst hv; exact r01_cmp w b A n c z k h b' A' n' c' z' k' h' (by omega)
theorem f_root_n (w : World) (b : Bool) (A : Option Addr) (n c : Nat) (D : Option Addr) (m e : Nat) (q : Rat) (k : Nat) (h : QZ w b A n c D m e q k) (h0 : 0 < k) (hk : k ≤ 1000000) (hx : q.num.sign = -1) :
  Calls Tryz.prog 47 #[.agg #[.bool b, .slice A n c, .slice D m e]] w (RetFe w (.bool false) 0 k) := by
 have HX := Lib.hid hx
 clear hx
 go_enter Tryz.func47, Tryz.ntmps47
 go_wp2_with fail
 (with_reducible refine (f_parts _ b A n c D m e (q) (k) ?_ ?_ ?_).mono ?_); (exact (h.belw (((Below.refl _ _).alloc (Nat.le_refl _) _).alloc (by simp) _))); (first | omega | decide | assumption); (first | omega | decide | assumption); rintro e w1 ⟨b1, A1, n1, c1, b'1, A'1, n'1, c'1, rfl, h1, h'1, hb1⟩
 have q1 := (((Below.refl _ _).alloc (Nat.le_refl _) _).alloc (by simp) _).trans (hb1.mono (by simp <;> omega))
 replace h := h.belw q1
 have x1a : Blk w1 w.heap.size 24 #[.bool b, .slice A n c, .slice D m e] := ((blkAt _ _ _ (by simp)).alloc _).below hb1 (by simp <;> omega)
 have x1b := (blkAt _ _ _ (g := w.heap.size + 1) (by simp)).below hb1 (by simp)
 have bw1 := (brefl w).trans (q1.mono (brefl w).size)
 have lw1 : w.heap.size + 2 ≤ w1.heap.size := by have := hb1.size; simp at this; omega
 clear q1
 go_wp2_with fail
 (with_reducible refine (i_sign_e _ b1 A1 n1 c1 ((q).num) ((k)) ?_ (-1) ?_ ?_).mono ?_); (exact (h1.belw (((Below.refl _ _).alloc (Nat.le_refl _) _).alloc (by simp) _)).iz); (exact HX.out); (omega); rintro e w2 ⟨rfl, hb2⟩
 have q2 := (((Below.refl _ _).alloc (Nat.le_refl _) _).alloc (by simp) _).trans (hb2.mono (by simp <;> omega))
 replace h := h.belw q2
 replace h1 := h1.belw q2
 replace h'1 := h'1.belw q2
 replace x1a := x1a.b q2
 replace x1b := x1b.b q2
 have x2a : Blk w2 w1.heap.size 46 #[.bool b1, .slice A1 n1 c1] := ((blkAt _ _ _ (by simp)).alloc _).below hb2 (by simp <;> omega)
 have x2b := (blkAt _ _ _ (g := w1.heap.size + 1) (by simp)).below hb2 (by simp)
 have bw2 := bw1.trans (q2.mono bw1.size)
 have lw2 : w1.heap.size + 2 ≤ w2.heap.size := by have := hb2.size; simp at this; omega
 clear q2 bw1
 obtain ⟨cx1ba, cx1bb, cx1bc⟩ := x1b.c3
 obtain ⟨fx1ba, fx1bb, fx1bc⟩ := x1b.f3
 obtain ⟨lx1ba, lx1bb, lx1bc, lx1bd⟩ := lts1 x1b.lt
 go_wp2_with fail
 refine bodyPost_ret (v := .tuple #[.agg #[.bool false, .slice none 0 0, .slice none 0 0], .bool false]) (by simp [results, Tryz.results47, go_sem, *] <;> first | rfl | exact ⟨rfl, rfl⟩) rfl ?_
 exact ⟨_, _, _, _, _, _, _, rfl, QV.zero _ _, (((bw2.sc (w.heap.size + 1) 0 (by omega) (.bool false)).sc (w.heap.size + 1) 1 (by omega) (.slice none 0 0)).sc (w.heap.size + 1) 2 (by omega) (.slice none 0 0))⟩
theorem f_root_as (w : World) (b : Bool) (A : Option Addr) (n c : Nat) (D : Option Addr) (m e : Nat) (q : Rat) (k : Nat) (h : QZ w b A n c D m e q k) (h0 : 0 < k) (hk : k ≤ 1000000) (s : Int) (hx : q.num.sign = s) (h9 : 0 ≤ s) (h1 : isq q.num.natAbs * isq q.num.natAbs = q.num.natAbs) (h2 : isq q.den * isq q.den = q.den) :
    Calls Tryz.prog 47 #[.agg #[.bool b, .slice A n c, .slice D m e]] w (RetFe w (.bool true) (Rat.divInt ((isq q.num.natAbs : Nat) : Int) ((isq q.den : Nat) : Int)) k) := by
  have hp : 0 ≤ q.num := by rcases Int.lt_trichotomy q.num 0 with e | e | e
                            · rw [Int.sign_eq_neg_one_of_neg e] at hx; omega
                            · omega
                            · omega
  have HX := Lib.hid hx
  have HE1 := Lib.hid (And.intro (rootE_pos hp) (rootZ_pos hp))
  have HE2 := Lib.hid (And.intro (rootE_pos (z := (q.den : Int)) (by omega)) (rootZ_pos (z := (q.den : Int)) (by omega)))
  have HC1 := Lib.hid (cmp_sq0 hp h1)
  have HC2 := Lib.hid (cmp_sq0 (z := (q.den : Int)) (by omega) h2)
  have HD := Lib.hid (isq_ne (q.den_nz) h2)
  have hs := h.sz h0
  have HS := Lib.hid (Sz_divInt (isq_lt hs.1) (isq_lt (z := (q.den : Int)) (by simpa using hs.2)) h0)
  clear hs
  have es : (s < 0) = False := by simp; omega
  clear hx hp h9 h1 h2
  go_enter Tryz.func47, Tryz.ntmps47
  go_wp2_with fail
  (with_reducible refine (f_parts _ b A n c D m e (q) (k) ?_ ?_ ?_).mono ?_); (exact (h.belw (((Below.refl _ _).alloc (Nat.le_refl _) _).alloc (by simp) _))); (first | omega | decide | assumption); (first | omega | decide | assumption); rintro e w1 ⟨b1, A1, n1, c1, b'1, A'1, n'1, c'1, rfl, h1, h'1, hb1⟩
  have q1 := (((Below.refl _ _).alloc (Nat.le_refl _) _).alloc (by simp) _).trans (hb1.mono (by simp <;> omega))
  replace h := h.belw q1
  have x1a : Blk w1 w.heap.size 24 #[.bool b, .slice A n c, .slice D m e] := ((blkAt _ _ _ (by simp)).alloc _).below hb1 (by simp <;> omega)
  have x1b := (blkAt _ _ _ (g := w.heap.size + 1) (by simp)).below hb1 (by simp)
  have bw1 := (brefl w).trans (q1.mono (brefl w).size)
  have lw1 : w.heap.size + 2 ≤ w1.heap.size := by have := hb1.size; simp at this; omega
  clear q1
  go_wp2_with fail
  (with_reducible refine (i_sign_e _ b1 A1 n1 c1 ((q).num) ((k)) ?_ s ?_ ?_).mono ?_); (exact (h1.belw (((Below.refl _ _).alloc (Nat.le_refl _) _).alloc (by simp) _)).iz); (exact HX.out); (omega); rintro e w2 ⟨rfl, hb2⟩
  have q2 := (((Below.refl _ _).alloc (Nat.le_refl _) _).alloc (by simp) _).trans (hb2.mono (by simp <;> omega))
  replace h := h.belw q2
  replace h1 := h1.belw q2
  replace h'1 := h'1.belw q2
  replace x1a := x1a.b q2
  replace x1b := x1b.b q2
  have x2a : Blk w2 w1.heap.size 46 #[.bool b1, .slice A1 n1 c1] := ((blkAt _ _ _ (by simp)).alloc _).below hb2 (by simp <;> omega)
  have x2b := (blkAt _ _ _ (g := w1.heap.size + 1) (by simp)).below hb2 (by simp)
  have bw2 := bw1.trans (q2.mono bw1.size)
  have lw2 : w1.heap.size + 2 ≤ w2.heap.size := by have := hb2.size; simp at this; omega
  clear q2 bw1
  obtain ⟨cx2aa, cx2ab⟩ := x2a.c2
  obtain ⟨lx2aa, lx2ab, lx2ac, lx2ad⟩ := lts0 x2a.lt
  go_wp2_with fail
  (with_reducible refine (i_root _ b1 A1 n1 c1 ((q).num) ((k)) ?_ (by omega) (.nilIface) HE1.out.1 ((isq (q.num).natAbs : Nat) : Int) HE1.out.2).mono ?_); (exact h1.iz); rintro e w3 ⟨b3, A3, n3, c3, rfl, h3, q3⟩
  clear cx2aa cx2ab lx2aa lx2ab lx2ac lx2ad
  replace h := h.belw q3
  replace h1 := h1.belw q3
  replace h'1 := h'1.belw q3
  replace x1a := x1a.b q3
  replace x1b := x1b.b q3
  replace x2a := x2a.b q3
  replace x2b := x2b.b q3
  have bw3 := bw2.trans (q3.mono bw2.size)
  have lw3 := q3.size
  clear q3 bw2
  obtain ⟨cx2ba, cx2bb⟩ := x2b.c2
  obtain ⟨lx2ba, lx2bb, lx2bc, lx2bd⟩ := lts1 x2b.lt
  go_wp2_with fail
  (with_reducible refine (i_root _ b'1 A'1 n'1 c'1 (((q).den : Int)) ((k)) ?_ (by omega) (.nilIface) HE2.out.1 ((isq ((q.den : Int)).natAbs : Nat) : Int) HE2.out.2).mono ?_); (exact (h'1.belw ((Below.refl _ _).alloc (Nat.le_refl _) _)).iz); rintro e w4 ⟨b4, A4, n4, c4, rfl, h4, hb4⟩
  clear cx2ba cx2bb lx2ba lx2bb lx2bc lx2bd
  have q4 := ((Below.refl _ _).alloc (Nat.le_refl _) _).trans (hb4.mono (by simp))
  replace h := h.belw q4
  replace h1 := h1.belw q4
  replace h'1 := h'1.belw q4
  replace h3 := h3.belw q4
  replace x1a := x1a.b q4
  replace x1b := x1b.b q4
  replace x2a := x2a.b q4
  replace x2b := x2b.b q4
  have x4a : Blk w4 w3.heap.size 46 #[.bool b3, .slice A3 n3 c3] := (blkAt _ _ _ (by simp)).below hb4 (by simp)
  have bw4 := bw3.trans (q4.mono bw3.size)
  have lw4 : w3.heap.size + 1 ≤ w4.heap.size := by have := hb4.size; simp at this; omega
  clear q4 bw3
  go_wp2_with fail
  have p5 := ((Kp.refl w4).alloc (.cells #[.bool b4, .slice A4 n4 c4] 46))
  have bw5 := (bw4.alloc (by first | omega | (simp <;> omega)) (.cells #[.bool b4, .slice A4 n4 c4] 46))
  have x5a : Blk (w4.alloc (.cells #[.bool b4, .slice A4 n4 c4] 46)) w4.heap.size 46 #[.bool b4, .slice A4 n4 c4] := (blkAt _ _ _ (by simp))
  replace x1a := (x1a.alloc (.cells #[.bool b4, .slice A4 n4 c4] 46))
  replace x1b := (x1b.alloc (.cells #[.bool b4, .slice A4 n4 c4] 46))
  replace x2a := (x2a.alloc (.cells #[.bool b4, .slice A4 n4 c4] 46))
  replace x2b := (x2b.alloc (.cells #[.bool b4, .slice A4 n4 c4] 46))
  replace x4a := (x4a.alloc (.cells #[.bool b4, .slice A4 n4 c4] 46))
  have lw5 : w4.heap.size + 1 ≤ (w4.alloc (.cells #[.bool b4, .slice A4 n4 c4] 46)).heap.size := by simp
  generalize hE5 : (w4.alloc (.cells #[.bool b4, .slice A4 n4 c4] 46)) = w5 at p5 bw5 lw5 x5a x1a x1b x2a x2b x4a ⊢
  clear hE5
  replace h := h.keep p5
  replace h1 := h1.keep p5
  replace h'1 := h'1.keep p5
  replace h3 := h3.keep p5
  replace h4 := h4.keep p5
  clear bw4
  obtain ⟨cx2aa, cx2ab⟩ := x2a.c2
  obtain ⟨lx2aa, lx2ab, lx2ac, lx2ad⟩ := lts0 x2a.lt
  obtain ⟨cx2ba, cx2bb⟩ := x2b.c2
  obtain ⟨lx2ba, lx2bb, lx2bc, lx2bd⟩ := lts1 x2b.lt
  obtain ⟨cx4aa, cx4ab⟩ := x4a.c2
  obtain ⟨lx4aa, lx4ab, lx4ac, lx4ad⟩ := lts0 x4a.lt
  obtain ⟨cx5aa, cx5ab⟩ := x5a.c2
  obtain ⟨lx5aa, lx5ab, lx5ac, lx5ad⟩ := lts0 x5a.lt
  refine wp_region_lin (B := w.heap.size) (fr := fun xf => ⟨List.toArray (.agg #[.bool b, .slice A n c, .slice D m e] :: .pointer (some ⟨w.heap.size, 0, none⟩) :: .pointer (some ⟨w.heap.size + 1, 0, none⟩) :: .bool false :: .pointer (some ⟨w1.heap.size, 0, none⟩) :: .pointer (some ⟨w1.heap.size + 1, 0, none⟩) :: .pointer (some ⟨w3.heap.size, 0, none⟩) :: .nilIface :: .pointer (some ⟨w4.heap.size, 0, none⟩) :: .nilIface :: .tuple #[.agg #[.bool b1, .slice A1 n1 c1], .agg #[.bool b'1, .slice A'1 n'1 c'1]] :: .agg #[.bool b, .slice A n c, .slice D m e] :: .tuple #[.agg #[.bool b1, .slice A1 n1 c1], .agg #[.bool b'1, .slice A'1 n'1 c'1]] :: .agg #[.bool b1, .slice A1 n1 c1] :: .agg #[.bool b'1, .slice A'1 n'1 c'1] :: .agg #[.bool b1, .slice A1 n1 c1] :: .int .i64 s :: .bool false :: undef :: .tuple #[.agg #[.bool b3, .slice A3 n3 c3], .nilIface] :: .agg #[.bool b1, .slice A1 n1 c1] :: .tuple #[.agg #[.bool b3, .slice A3 n3 c3], .nilIface] :: .agg #[.bool b3, .slice A3 n3 c3] :: .nilIface :: .tuple #[.agg #[.bool b4, .slice A4 n4 c4], .nilIface] :: .agg #[.bool b'1, .slice A'1 n'1 c'1] :: .tuple #[.agg #[.bool b4, .slice A4 n4 c4], .nilIface] :: .agg #[.bool b4, .slice A4 n4 c4] :: .nilIface :: xf 0 :: xf 1 :: xf 2 :: xf 3 :: xf 4 :: xf 5 :: xf 6 :: xf 7 :: xf 8 :: xf 9 :: xf 10 :: xf 11 :: xf 12 :: xf 13 :: undef :: undef :: undef :: undef :: []), []⟩) (R := fun ri => List.getD ((PEq (.agg #[.bool b3, .slice A3 n3 c3])) :: (PEq (.agg #[.bool b3, .slice A3 n3 c3])) :: (VI ((((isq (q.num).natAbs : Nat) : Int)) * (((isq (q.num).natAbs : Nat) : Int))) ((k) + (k))) :: (PEq (.agg #[.bool b1, .slice A1 n1 c1])) :: (PEq (.int .i64 (0))) :: (PEq (.bool false)) :: (PEq (.bool false)) :: (PEq (.agg #[.bool b4, .slice A4 n4 c4])) :: (PEq (.agg #[.bool b4, .slice A4 n4 c4])) :: (VI ((((isq ((q.den : Int)).natAbs : Nat) : Int)) * (((isq ((q.den : Int)).natAbs : Nat) : Int))) ((k) + (k))) :: (PEq (.agg #[.bool b'1, .slice A'1 n'1 c'1])) :: (PEq (.int .i64 (0))) :: (PEq (.bool false)) :: (PEq (.bool false)) :: []) ri (fun _ _ => True)) (es := []) (ow := [⟨w.heap.size, 14, 0, 24, #[.bool b, .slice A n c, .slice D m e], CAny⟩, ⟨w.heap.size + 1, 14, 0, 24, #[.bool false, .slice none 0 0, .slice none 0 0], CAny⟩, ⟨w1.heap.size, 14, 0, 46, #[.bool b1, .slice A1 n1 c1], CAny⟩, ⟨w1.heap.size + 1, 14, 0, 46, #[.bool b'1, .slice A'1 n'1 c'1], CAny⟩, ⟨w3.heap.size, 14, 0, 46, #[.bool b3, .slice A3 n3 c3], CAny⟩, ⟨w4.heap.size, 14, 0, 46, #[.bool b4, .slice A4 n4 c4], CAny⟩]) (x0 := (fun _ => undef)) (by kernel_rfl)
    (each_of ⟨fun _ _ => rfl, fun _ _ => rfl, fun _ _ => rfl, fun _ _ => rfl, fun _ _ => rfl, fun _ _ => rfl, fun _ _ => rfl, fun _ _ => rfl, fun _ _ => rfl, fun _ _ => rfl, fun _ _ => rfl, fun _ _ => rfl, fun _ _ => rfl, fun _ _ => rfl, trivial⟩) (each_of (acyc_from _ 0 (by kernel_rfl))) (AllStab.get _ ⟨stEq _, stEq _, stI _ _, stEq _, stEq _, stEq _, stEq _, stEq _, stEq _, stI _ _, stEq _, stEq _, stEq _, stEq _, trivial⟩)
    (fun _ h => nomatch h) (List.forall_mem_cons.2 ⟨scAny, List.forall_mem_cons.2 ⟨scAny, List.forall_mem_cons.2 ⟨scAny, List.forall_mem_cons.2 ⟨scAny, List.forall_mem_cons.2 ⟨scAny, List.forall_mem_cons.2 ⟨scAny, fun _ h => nomatch h⟩⟩⟩⟩⟩⟩) (fun _ h => nomatch h) bw5.size
    (List.forall_mem_cons.2 ⟨⟨x1a, by show w.heap.size ≤ w.heap.size; omega⟩, List.forall_mem_cons.2 ⟨⟨x1b, by show w.heap.size ≤ w.heap.size + 1; omega⟩, List.forall_mem_cons.2 ⟨⟨x2a, by show w.heap.size ≤ w1.heap.size; omega⟩, List.forall_mem_cons.2 ⟨⟨x2b, by show w.heap.size ≤ w1.heap.size + 1; omega⟩, List.forall_mem_cons.2 ⟨⟨x4a, by show w.heap.size ≤ w3.heap.size; omega⟩, List.forall_mem_cons.2 ⟨⟨x5a, by show w.heap.size ≤ w4.heap.size; omega⟩, fun _ h => nomatch h⟩⟩⟩⟩⟩⟩) (ownDist (by simp <;> omega))
    (each_of ⟨?_, ?_, ?_, ?_, ?_, ?_, ?_, ?_, ?_, ?_, ?_, ?_, ?_, ?_, trivial⟩) ?_
  · exact .inl ⟨by simp, by simp, fun xf wq hk hbl hd K hK => by
      have y : Blk wq w3.heap.size 46 #[.bool b3, .slice A3 n3 c3] := hbl _ (List.Mem.tail _ (List.Mem.tail _ (List.Mem.tail _ (List.Mem.tail _ (List.Mem.head _))))) (by simp [Region.binds])
      obtain ⟨hcl0, hcl1⟩ := y.c2
      (try dsimp only)
      go_simp
      exact hK.out (.agg #[.bool b3, .slice A3 n3 c3]) _ rfl (brefl _)⟩
  · exact .inl ⟨by simp, by simp, fun xf wq hk hbl hd K hK => by
      have y : Blk wq w3.heap.size 46 #[.bool b3, .slice A3 n3 c3] := hbl _ (List.Mem.tail _ (List.Mem.tail _ (List.Mem.tail _ (List.Mem.tail _ (List.Mem.head _))))) (by simp [Region.binds])
      obtain ⟨hcl0, hcl1⟩ := y.c2
      (try dsimp only)
      go_simp
      exact hK.out (.agg #[.bool b3, .slice A3 n3 c3]) _ rfl (brefl _)⟩
  · exact .inl ⟨by simp, by simp, fun xf wq hk hbl hd K hK => by
      have dq0 : xf 0 = .agg #[.bool b3, .slice A3 n3 c3] := hd ⟨0, .data⟩ (by simp) rfl
      have dq1 : xf 1 = .agg #[.bool b3, .slice A3 n3 c3] := hd ⟨1, .data⟩ (by simp) rfl
      (try dsimp only); (try simp only [dq0, dq1])
      go_simp
      go_at_call 106
      (with_reducible refine (i_mul _ b3 A3 n3 c3 (((isq (q.num).natAbs : Nat) : Int)) (k) ?_ b3 A3 n3 c3 (((isq (q.num).natAbs : Nat) : Int)) (k) ?_ ?_).mono ?_); (exact (h3.keep hk).iz); (exact (h3.keep hk).iz); (first | omega | decide | assumption); rintro e wr ⟨b7, A7, n7, c7, rfl, h7, hbr⟩
      have hz := hK.out _ _ ⟨b7, A7, n7, c7, rfl, h7⟩ hbr
      simp only [dq0, dq1] at hz
      exact hz⟩
  · exact .inl ⟨by simp, by simp, fun xf wq hk hbl hd K hK => by
      have y : Blk wq w1.heap.size 46 #[.bool b1, .slice A1 n1 c1] := hbl _ (List.Mem.tail _ (List.Mem.tail _ (List.Mem.head _))) (by simp [Region.binds])
      obtain ⟨hcl0, hcl1⟩ := y.c2
      (try dsimp only)
      go_simp
      exact hK.out (.agg #[.bool b1, .slice A1 n1 c1]) _ rfl (brefl _)⟩
  · exact .inl ⟨by simp, by simp, fun xf wq hk hbl hd K hK => by
      obtain ⟨b7, A7, n7, c7, dq2, h7⟩ : VI ((((isq (q.num).natAbs : Nat) : Int)) * (((isq (q.num).natAbs : Nat) : Int))) ((k) + (k)) (xf 2) wq := hd ⟨2, .data⟩ (by simp) rfl
      have dq3 : xf 3 = .agg #[.bool b1, .slice A1 n1 c1] := hd ⟨3, .data⟩ (by simp) rfl
      (try dsimp only); (try simp only [dq2, dq3])
      go_simp
      go_at_call 59
      (with_reducible refine (i_cmp_v2 _ b7 A7 n7 c7 ((((isq (q.num).natAbs : Nat) : Int)) * (((isq (q.num).natAbs : Nat) : Int))) ((k) + (k)) ?_ b1 A1 n1 c1 ((q).num) ((k)) ?_ (0) HC1.out ?_).mono ?_); (exact h7.iz); (exact (h1.keep hk).iz); (first | omega | assumption); rintro e wr ⟨rfl, hbr⟩
      have hz := hK.out (.int .i64 (0)) _ rfl hbr
      simp only [dq2, dq3] at hz
      exact hz⟩
  · exact .inl ⟨by simp, by simp, fun xf wq hk hbl hd K hK => by
      have dq4 : xf 4 = .int .i64 (0) := hd ⟨4, .data⟩ (by simp) rfl
      (try dsimp only); (try simp only [dq4])
      go_simp
      have hz := hK.out (.bool false) _ rfl (brefl _)
      simp only [dq4] at hz
      exact hz⟩
  · exact .inl ⟨by simp, by simp, fun xf wq hk hbl hd K hK => by
      have dq5 : xf 5 = .bool false := hd ⟨5, .data⟩ (by simp) rfl
      (try dsimp only); (try simp only [dq5])
      go_simp
      have hz := hK.out (.bool false) _ rfl (brefl _)
      simp only [dq5] at hz
      exact hz⟩
  · exact .inl ⟨by simp, by simp, fun xf wq hk hbl hd K hK => by
      have dq6 : xf 6 = .bool false := hd ⟨6, .guard⟩ (by simp) rfl
      have y : Blk wq w4.heap.size 46 #[.bool b4, .slice A4 n4 c4] := hbl _ (List.Mem.tail _ (List.Mem.tail _ (List.Mem.tail _ (List.Mem.tail _ (List.Mem.tail _ (List.Mem.head _)))))) (by simp [Region.binds])
      obtain ⟨hcl0, hcl1⟩ := y.c2
      (try dsimp only); (try simp only [dq6])
      go_simp
      have hz := hK.out (.agg #[.bool b4, .slice A4 n4 c4]) _ rfl (brefl _)
      simp only [dq6] at hz
      exact hz⟩
  · exact .inl ⟨by simp, by simp, fun xf wq hk hbl hd K hK => by
      have dq6 : xf 6 = .bool false := hd ⟨6, .guard⟩ (by simp) rfl
      have y : Blk wq w4.heap.size 46 #[.bool b4, .slice A4 n4 c4] := hbl _ (List.Mem.tail _ (List.Mem.tail _ (List.Mem.tail _ (List.Mem.tail _ (List.Mem.tail _ (List.Mem.head _)))))) (by simp [Region.binds])
      obtain ⟨hcl0, hcl1⟩ := y.c2
      (try dsimp only); (try simp only [dq6])
      go_simp
      have hz := hK.out (.agg #[.bool b4, .slice A4 n4 c4]) _ rfl (brefl _)
      simp only [dq6] at hz
      exact hz⟩
  · exact .inl ⟨by simp, by simp, fun xf wq hk hbl hd K hK => by
      have dq7 : xf 7 = .agg #[.bool b4, .slice A4 n4 c4] := hd ⟨7, .data⟩ (by simp) rfl
      have dq8 : xf 8 = .agg #[.bool b4, .slice A4 n4 c4] := hd ⟨8, .data⟩ (by simp) rfl
      have dq6 : xf 6 = .bool false := hd ⟨6, .guard⟩ (by simp) rfl
      (try dsimp only); (try simp only [dq7, dq8, dq6])
      go_simp
      go_at_call 106
      (with_reducible refine (i_mul _ b4 A4 n4 c4 (((isq ((q.den : Int)).natAbs : Nat) : Int)) (k) ?_ b4 A4 n4 c4 (((isq ((q.den : Int)).natAbs : Nat) : Int)) (k) ?_ ?_).mono ?_); (exact (h4.keep hk).iz); (exact (h4.keep hk).iz); (first | omega | decide | assumption); rintro e wr ⟨b9, A9, n9, c9, rfl, h9, hbr⟩
      have hz := hK.out _ _ ⟨b9, A9, n9, c9, rfl, h9⟩ hbr
      simp only [dq7, dq8, dq6] at hz
      exact hz⟩
  · exact .inl ⟨by simp, by simp, fun xf wq hk hbl hd K hK => by
      have dq6 : xf 6 = .bool false := hd ⟨6, .guard⟩ (by simp) rfl
      have y : Blk wq (w1.heap.size + 1) 46 #[.bool b'1, .slice A'1 n'1 c'1] := hbl _ (List.Mem.tail _ (List.Mem.tail _ (List.Mem.tail _ (List.Mem.head _)))) (by simp [Region.binds])
      obtain ⟨hcl0, hcl1⟩ := y.c2
      (try dsimp only); (try simp only [dq6])
      go_simp
      have hz := hK.out (.agg #[.bool b'1, .slice A'1 n'1 c'1]) _ rfl (brefl _)
      simp only [dq6] at hz
      exact hz⟩
  · exact .inl ⟨by simp, by simp, fun xf wq hk hbl hd K hK => by
      obtain ⟨b9, A9, n9, c9, dq9, h9⟩ : VI ((((isq ((q.den : Int)).natAbs : Nat) : Int)) * (((isq ((q.den : Int)).natAbs : Nat) : Int))) ((k) + (k)) (xf 9) wq := hd ⟨9, .data⟩ (by simp) rfl
      have dq10 : xf 10 = .agg #[.bool b'1, .slice A'1 n'1 c'1] := hd ⟨10, .data⟩ (by simp) rfl
      have dq6 : xf 6 = .bool false := hd ⟨6, .guard⟩ (by simp) rfl
      (try dsimp only); (try simp only [dq9, dq10, dq6])
      go_simp
      go_at_call 59
      (with_reducible refine (i_cmp_v2 _ b9 A9 n9 c9 ((((isq ((q.den : Int)).natAbs : Nat) : Int)) * (((isq ((q.den : Int)).natAbs : Nat) : Int))) ((k) + (k)) ?_ b'1 A'1 n'1 c'1 (((q).den : Int)) ((k)) ?_ (0) HC2.out ?_).mono ?_); (exact h9.iz); (exact (h'1.keep hk).iz); (first | omega | assumption); rintro e wr ⟨rfl, hbr⟩
      have hz := hK.out (.int .i64 (0)) _ rfl hbr
      simp only [dq9, dq10, dq6] at hz
      exact hz⟩
  · exact .inl ⟨by simp, by simp, fun xf wq hk hbl hd K hK => by
      have dq11 : xf 11 = .int .i64 (0) := hd ⟨11, .data⟩ (by simp) rfl
      have dq6 : xf 6 = .bool false := hd ⟨6, .guard⟩ (by simp) rfl
      (try dsimp only); (try simp only [dq11, dq6])
      go_simp
      have hz := hK.out (.bool false) _ rfl (brefl _)
      simp only [dq11, dq6] at hz
      exact hz⟩
  · exact .inl ⟨by simp, by simp, fun xf wq hk hbl hd K hK => by
      have dq6 : xf 6 = .bool false := hd ⟨6, .data⟩ (by simp) rfl
      have dq12 : xf 12 = .bool false := hd ⟨12, .data⟩ (by simp) rfl
      (try dsimp only); (try simp only [dq6, dq12])
      go_simp
      have hz := hK.out (.bool false) _ rfl (brefl _)
      simp only [dq6, dq12] at hz
      exact hz⟩
  clear cx2aa cx2ab lx2aa lx2ab lx2ac lx2ad cx2ba cx2bb lx2ba lx2bb lx2bc lx2bd cx4aa cx4ab lx4aa lx4ab lx4ac lx4ad cx5aa cx5ab lx5aa lx5ab lx5ac lx5ad
  intro y6 w6 kq6 hbl6 lw6 how hrr hfl hds
  replace h := h.keep kq6
  replace h1 := h1.keep kq6
  replace h'1 := h'1.keep kq6
  replace h3 := h3.keep kq6
  replace h4 := h4.keep kq6
  obtain ⟨_, z6_0, ez, _⟩ := how _ (List.Mem.head _)
  obtain rfl := ez (by simp)
  dsimp only at z6_0
  obtain ⟨_, z6_1, ez, _⟩ := how _ (List.Mem.tail _ (List.Mem.head _))
  obtain rfl := ez (by simp)
  dsimp only at z6_1
  obtain ⟨_, z6_2, ez, _⟩ := how _ (List.Mem.tail _ (List.Mem.tail _ (List.Mem.head _)))
  obtain rfl := ez (by simp)
  dsimp only at z6_2
  obtain ⟨_, z6_3, ez, _⟩ := how _ (List.Mem.tail _ (List.Mem.tail _ (List.Mem.tail _ (List.Mem.head _))))
  obtain rfl := ez (by simp)
  dsimp only at z6_3
  obtain ⟨_, z6_4, ez, _⟩ := how _ (List.Mem.tail _ (List.Mem.tail _ (List.Mem.tail _ (List.Mem.tail _ (List.Mem.head _)))))
  obtain rfl := ez (by simp)
  dsimp only at z6_4
  obtain ⟨_, z6_5, ez, _⟩ := how _ (List.Mem.tail _ (List.Mem.tail _ (List.Mem.tail _ (List.Mem.tail _ (List.Mem.tail _ (List.Mem.head _))))))
  obtain rfl := ez (by simp)
  dsimp only at z6_5
  have ea13 : y6 13 = .bool false := hrr 13 (by simp)
  (try dsimp only)
  simp only [ea13]
  clear hrr hfl how hds ea13
  clear x1a x1b x2a x2b x4a x5a
  have bw6 := bw5.trans hbl6
  clear bw5
  have cz6_4_0 : w6.cell? ⟨w3.heap.size, 0, none⟩ = some (.bool b3) := z6_4.cell 0
  have cz6_4_1 : w6.cell? ⟨w3.heap.size, 1, none⟩ = some (.slice A3 n3 c3) := z6_4.cell 1
  obtain ⟨lz6_4_0, lz6_4_1, lz6_4_2, lz6_4_3⟩ := lts0 z6_4.lt
  have cz6_5_0 : w6.cell? ⟨w4.heap.size, 0, none⟩ = some (.bool b4) := z6_5.cell 0
  have cz6_5_1 : w6.cell? ⟨w4.heap.size, 1, none⟩ = some (.slice A4 n4 c4) := z6_5.cell 1
  obtain ⟨lz6_5_0, lz6_5_1, lz6_5_2, lz6_5_3⟩ := lts0 z6_5.lt
  go_wp2_with fail
  (with_reducible refine (f_form _ b3 A3 n3 c3 (((isq (q.num).natAbs : Nat) : Int)) (k) ?_ b4 A4 n4 c4 (((isq ((q.den : Int)).natAbs : Nat) : Int)) (k) ?_ (Rat.divInt ((isq q.num.natAbs : Nat) : Int) ((isq q.den : Nat) : Int)) k ?_ ?_ ?_ ?_).mono ?_); (exact h3.iz); (exact h4.iz); (exact HD.out); (rfl); (exact HS.out); (omega); rintro e w12 ⟨b12, A12, n12, c12, A'12, n'12, c'12, rfl, h12, q12⟩
  clear cz6_4_0 cz6_4_1 lz6_4_0 lz6_4_1 lz6_4_2 lz6_4_3 cz6_5_0 cz6_5_1 lz6_5_0 lz6_5_1 lz6_5_2 lz6_5_3
  replace h := h.belw q12
  replace h1 := h1.belw q12
  replace h'1 := h'1.belw q12
  replace h3 := h3.belw q12
  replace h4 := h4.belw q12
  replace z6_0 := z6_0.b q12
  replace z6_1 := z6_1.b q12
  replace z6_2 := z6_2.b q12
  replace z6_3 := z6_3.b q12
  replace z6_4 := z6_4.b q12
  replace z6_5 := z6_5.b q12
  have bw12 := bw6.trans (q12.mono bw6.size)
  have lw12 := q12.size
  clear q12 bw6
  obtain ⟨cz6_1_0, cz6_1_1, cz6_1_2⟩ := z6_1.c3
  obtain ⟨fz6_1_0, fz6_1_1, fz6_1_2⟩ := z6_1.f3
  obtain ⟨lz6_1_0, lz6_1_1, lz6_1_2, lz6_1_3⟩ := lts1 z6_1.lt
  go_wp2_with fail
  refine bodyPost_ret (v := .tuple #[.agg #[.bool b12, .slice A12 n12 c12, .slice A'12 n'12 c'12], .bool true]) (by simp [results, Tryz.results47, go_sem, *] <;> first | rfl | exact ⟨rfl, rfl⟩) rfl ?_
  exact ⟨b12, A12, n12, c12, A'12, n'12, c'12, rfl, h12.keep ((((Kp.refl w12).sb (w.heap.size + 1) 0 z6_1.box (by decide) (.bool b12)).sb (w.heap.size + 1) 1 (z6_1.box.set ⟨w.heap.size + 1, 0, none⟩ (.bool b12)) (by decide) (.slice A12 n12 c12)).sb (w.heap.size + 1) 2 ((z6_1.box.set ⟨w.heap.size + 1, 0, none⟩ (.bool b12)).set ⟨w.heap.size + 1, 1, none⟩ (.slice A12 n12 c12)) (by decide) (.slice A'12 n'12 c'12)), (((bw12.sc (w.heap.size + 1) 0 (by omega) (.bool b12)).sc (w.heap.size + 1) 1 (by omega) (.slice A12 n12 c12)).sc (w.heap.size + 1) 2 (by omega) (.slice A'12 n'12 c'12))⟩
theorem f_root_bs (w : World) (b : Bool) (A : Option Addr) (n c : Nat) (D : Option Addr) (m e : Nat) (q : Rat) (k : Nat) (h : QZ w b A n c D m e q k) (h0 : 0 < k) (hk : k ≤ 1000000) (s : Int) (hx : q.num.sign = s) (h9 : 0 ≤ s) (h1 : isq q.num.natAbs * isq q.num.natAbs = q.num.natAbs) (h2 : ¬ isq q.den * isq q.den = q.den) :
    Calls Tryz.prog 47 #[.agg #[.bool b, .slice A n c, .slice D m e]] w (RetFe w (.bool false) (0) k) := by
  have hp : 0 ≤ q.num := by rcases Int.lt_trichotomy q.num 0 with e | e | e
                            · rw [Int.sign_eq_neg_one_of_neg e] at hx; omega
                            · omega
                            · omega
  have HX := Lib.hid hx
  have HE1 := Lib.hid (And.intro (rootE_pos hp) (rootZ_pos hp))
  have HE2 := Lib.hid (And.intro (rootE_pos (z := (q.den : Int)) (by omega)) (rootZ_pos (z := (q.den : Int)) (by omega)))
  have HC1 := Lib.hid (cmp_sq0 hp h1)
  have HC2 := Lib.hid (cmp_sq1 (z := (q.den : Int)) (by omega) h2)
  have es : (s < 0) = False := by simp; omega
  clear hx hp h9 h1 h2
  go_enter Tryz.func47, Tryz.ntmps47
  go_wp2_with fail
  (with_reducible refine (f_parts _ b A n c D m e (q) (k) ?_ ?_ ?_).mono ?_); (exact (h.belw (((Below.refl _ _).alloc (Nat.le_refl _) _).alloc (by simp) _))); (first | omega | decide | assumption); (first | omega | decide | assumption); rintro e w1 ⟨b1, A1, n1, c1, b'1, A'1, n'1, c'1, rfl, h1, h'1, hb1⟩
  have q1 := (((Below.refl _ _).alloc (Nat.le_refl _) _).alloc (by simp) _).trans (hb1.mono (by simp <;> omega))
  replace h := h.belw q1
  have x1a : Blk w1 w.heap.size 24 #[.bool b, .slice A n c, .slice D m e] := ((blkAt _ _ _ (by simp)).alloc _).below hb1 (by simp <;> omega)
  have x1b := (blkAt _ _ _ (g := w.heap.size + 1) (by simp)).below hb1 (by simp)
  have bw1 := (brefl w).trans (q1.mono (brefl w).size)
  have lw1 : w.heap.size + 2 ≤ w1.heap.size := by have := hb1.size; simp at this; omega
  clear q1
  go_wp2_with fail
  (with_reducible refine (i_sign_e _ b1 A1 n1 c1 ((q).num) ((k)) ?_ s ?_ ?_).mono ?_); (exact (h1.belw (((Below.refl _ _).alloc (Nat.le_refl _) _).alloc (by simp) _)).iz); (exact HX.out); (omega); rintro e w2 ⟨rfl, hb2⟩
  have q2 := (((Below.refl _ _).alloc (Nat.le_refl _) _).alloc (by simp) _).trans (hb2.mono (by simp <;> omega))
  replace h := h.belw q2
  replace h1 := h1.belw q2
  replace h'1 := h'1.belw q2
  replace x1a := x1a.b q2
  replace x1b := x1b.b q2
  have x2a : Blk w2 w1.heap.size 46 #[.bool b1, .slice A1 n1 c1] := ((blkAt _ _ _ (by simp)).alloc _).below hb2 (by simp <;> omega)
  have x2b := (blkAt _ _ _ (g := w1.heap.size + 1) (by simp)).below hb2 (by simp)
  have bw2 := bw1.trans (q2.mono bw1.size)
  have lw2 : w1.heap.size + 2 ≤ w2.heap.size := by have := hb2.size; simp at this; omega
  clear q2 bw1
  obtain ⟨cx2aa, cx2ab⟩ := x2a.c2
  obtain ⟨lx2aa, lx2ab, lx2ac, lx2ad⟩ := lts0 x2a.lt
  go_wp2_with fail
  (with_reducible refine (i_root _ b1 A1 n1 c1 ((q).num) ((k)) ?_ (by omega) (.nilIface) HE1.out.1 ((isq (q.num).natAbs : Nat) : Int) HE1.out.2).mono ?_); (exact h1.iz); rintro e w3 ⟨b3, A3, n3, c3, rfl, h3, q3⟩
  clear cx2aa cx2ab lx2aa lx2ab lx2ac lx2ad
  replace h := h.belw q3
  replace h1 := h1.belw q3
  replace h'1 := h'1.belw q3
  replace x1a := x1a.b q3
  replace x1b := x1b.b q3
  replace x2a := x2a.b q3
  replace x2b := x2b.b q3
  have bw3 := bw2.trans (q3.mono bw2.size)
  have lw3 := q3.size
  clear q3 bw2
  obtain ⟨cx2ba, cx2bb⟩ := x2b.c2
  obtain ⟨lx2ba, lx2bb, lx2bc, lx2bd⟩ := lts1 x2b.lt
  go_wp2_with fail
  (with_reducible refine (i_root _ b'1 A'1 n'1 c'1 (((q).den : Int)) ((k)) ?_ (by omega) (.nilIface) HE2.out.1 ((isq ((q.den : Int)).natAbs : Nat) : Int) HE2.out.2).mono ?_); (exact (h'1.belw ((Below.refl _ _).alloc (Nat.le_refl _) _)).iz); rintro e w4 ⟨b4, A4, n4, c4, rfl, h4, hb4⟩
  clear cx2ba cx2bb lx2ba lx2bb lx2bc lx2bd
  have q4 := ((Below.refl _ _).alloc (Nat.le_refl _) _).trans (hb4.mono (by simp))
  replace h := h.belw q4
  replace h1 := h1.belw q4
  replace h'1 := h'1.belw q4
  replace h3 := h3.belw q4
  replace x1a := x1a.b q4
  replace x1b := x1b.b q4
  replace x2a := x2a.b q4
  replace x2b := x2b.b q4
  have x4a : Blk w4 w3.heap.size 46 #[.bool b3, .slice A3 n3 c3] := (blkAt _ _ _ (by simp)).below hb4 (by simp)
  have bw4 := bw3.trans (q4.mono bw3.size)
  have lw4 : w3.heap.size + 1 ≤ w4.heap.size := by have := hb4.size; simp at this; omega
  clear q4 bw3
  go_wp2_with fail
  have p5 := ((Kp.refl w4).alloc (.cells #[.bool b4, .slice A4 n4 c4] 46))
  have bw5 := (bw4.alloc (by first | omega | (simp <;> omega)) (.cells #[.bool b4, .slice A4 n4 c4] 46))
  have x5a : Blk (w4.alloc (.cells #[.bool b4, .slice A4 n4 c4] 46)) w4.heap.size 46 #[.bool b4, .slice A4 n4 c4] := (blkAt _ _ _ (by simp))
  replace x1a := (x1a.alloc (.cells #[.bool b4, .slice A4 n4 c4] 46))
  replace x1b := (x1b.alloc (.cells #[.bool b4, .slice A4 n4 c4] 46))
  replace x2a := (x2a.alloc (.cells #[.bool b4, .slice A4 n4 c4] 46))
  replace x2b := (x2b.alloc (.cells #[.bool b4, .slice A4 n4 c4] 46))
  replace x4a := (x4a.alloc (.cells #[.bool b4, .slice A4 n4 c4] 46))
  have lw5 : w4.heap.size + 1 ≤ (w4.alloc (.cells #[.bool b4, .slice A4 n4 c4] 46)).heap.size := by simp
  generalize hE5 : (w4.alloc (.cells #[.bool b4, .slice A4 n4 c4] 46)) = w5 at p5 bw5 lw5 x5a x1a x1b x2a x2b x4a ⊢
  clear hE5
  replace h := h.keep p5
  replace h1 := h1.keep p5
  replace h'1 := h'1.keep p5
  replace h3 := h3.keep p5
  replace h4 := h4.keep p5
  clear bw4
  obtain ⟨cx2aa, cx2ab⟩ := x2a.c2
  obtain ⟨lx2aa, lx2ab, lx2ac, lx2ad⟩ := lts0 x2a.lt
  obtain ⟨cx2ba, cx2bb⟩ := x2b.c2
  obtain ⟨lx2ba, lx2bb, lx2bc, lx2bd⟩ := lts1 x2b.lt
  obtain ⟨cx4aa, cx4ab⟩ := x4a.c2
  obtain ⟨lx4aa, lx4ab, lx4ac, lx4ad⟩ := lts0 x4a.lt
  obtain ⟨cx5aa, cx5ab⟩ := x5a.c2
  obtain ⟨lx5aa, lx5ab, lx5ac, lx5ad⟩ := lts0 x5a.lt
  refine wp_region_lin (B := w.heap.size) (fr := fun xf => ⟨List.toArray (.agg #[.bool b, .slice A n c, .slice D m e] :: .pointer (some ⟨w.heap.size, 0, none⟩) :: .pointer (some ⟨w.heap.size + 1, 0, none⟩) :: .bool false :: .pointer (some ⟨w1.heap.size, 0, none⟩) :: .pointer (some ⟨w1.heap.size + 1, 0, none⟩) :: .pointer (some ⟨w3.heap.size, 0, none⟩) :: .nilIface :: .pointer (some ⟨w4.heap.size, 0, none⟩) :: .nilIface :: .tuple #[.agg #[.bool b1, .slice A1 n1 c1], .agg #[.bool b'1, .slice A'1 n'1 c'1]] :: .agg #[.bool b, .slice A n c, .slice D m e] :: .tuple #[.agg #[.bool b1, .slice A1 n1 c1], .agg #[.bool b'1, .slice A'1 n'1 c'1]] :: .agg #[.bool b1, .slice A1 n1 c1] :: .agg #[.bool b'1, .slice A'1 n'1 c'1] :: .agg #[.bool b1, .slice A1 n1 c1] :: .int .i64 s :: .bool false :: undef :: .tuple #[.agg #[.bool b3, .slice A3 n3 c3], .nilIface] :: .agg #[.bool b1, .slice A1 n1 c1] :: .tuple #[.agg #[.bool b3, .slice A3 n3 c3], .nilIface] :: .agg #[.bool b3, .slice A3 n3 c3] :: .nilIface :: .tuple #[.agg #[.bool b4, .slice A4 n4 c4], .nilIface] :: .agg #[.bool b'1, .slice A'1 n'1 c'1] :: .tuple #[.agg #[.bool b4, .slice A4 n4 c4], .nilIface] :: .agg #[.bool b4, .slice A4 n4 c4] :: .nilIface :: xf 0 :: xf 1 :: xf 2 :: xf 3 :: xf 4 :: xf 5 :: xf 6 :: xf 7 :: xf 8 :: xf 9 :: xf 10 :: xf 11 :: xf 12 :: xf 13 :: undef :: undef :: undef :: undef :: []), []⟩) (R := fun ri => List.getD ((PEq (.agg #[.bool b3, .slice A3 n3 c3])) :: (PEq (.agg #[.bool b3, .slice A3 n3 c3])) :: (VI ((((isq (q.num).natAbs : Nat) : Int)) * (((isq (q.num).natAbs : Nat) : Int))) ((k) + (k))) :: (PEq (.agg #[.bool b1, .slice A1 n1 c1])) :: (PEq (.int .i64 (0))) :: (PEq (.bool false)) :: (PEq (.bool false)) :: (PEq (.agg #[.bool b4, .slice A4 n4 c4])) :: (PEq (.agg #[.bool b4, .slice A4 n4 c4])) :: (VI ((((isq ((q.den : Int)).natAbs : Nat) : Int)) * (((isq ((q.den : Int)).natAbs : Nat) : Int))) ((k) + (k))) :: (PEq (.agg #[.bool b'1, .slice A'1 n'1 c'1])) :: (PEq (.int .i64 (-1))) :: (PEq (.bool true)) :: (PEq (.bool true)) :: []) ri (fun _ _ => True)) (es := []) (ow := [⟨w.heap.size, 14, 0, 24, #[.bool b, .slice A n c, .slice D m e], CAny⟩, ⟨w.heap.size + 1, 14, 0, 24, #[.bool false, .slice none 0 0, .slice none 0 0], CAny⟩, ⟨w1.heap.size, 14, 0, 46, #[.bool b1, .slice A1 n1 c1], CAny⟩, ⟨w1.heap.size + 1, 14, 0, 46, #[.bool b'1, .slice A'1 n'1 c'1], CAny⟩, ⟨w3.heap.size, 14, 0, 46, #[.bool b3, .slice A3 n3 c3], CAny⟩, ⟨w4.heap.size, 14, 0, 46, #[.bool b4, .slice A4 n4 c4], CAny⟩]) (x0 := (fun _ => undef)) (by kernel_rfl)
    (each_of ⟨fun _ _ => rfl, fun _ _ => rfl, fun _ _ => rfl, fun _ _ => rfl, fun _ _ => rfl, fun _ _ => rfl, fun _ _ => rfl, fun _ _ => rfl, fun _ _ => rfl, fun _ _ => rfl, fun _ _ => rfl, fun _ _ => rfl, fun _ _ => rfl, fun _ _ => rfl, trivial⟩) (each_of (acyc_from _ 0 (by kernel_rfl))) (AllStab.get _ ⟨stEq _, stEq _, stI _ _, stEq _, stEq _, stEq _, stEq _, stEq _, stEq _, stI _ _, stEq _, stEq _, stEq _, stEq _, trivial⟩)
    (fun _ h => nomatch h) (List.forall_mem_cons.2 ⟨scAny, List.forall_mem_cons.2 ⟨scAny, List.forall_mem_cons.2 ⟨scAny, List.forall_mem_cons.2 ⟨scAny, List.forall_mem_cons.2 ⟨scAny, List.forall_mem_cons.2 ⟨scAny, fun _ h => nomatch h⟩⟩⟩⟩⟩⟩) (fun _ h => nomatch h) bw5.size
    (List.forall_mem_cons.2 ⟨⟨x1a, by show w.heap.size ≤ w.heap.size; omega⟩, List.forall_mem_cons.2 ⟨⟨x1b, by show w.heap.size ≤ w.heap.size + 1; omega⟩, List.forall_mem_cons.2 ⟨⟨x2a, by show w.heap.size ≤ w1.heap.size; omega⟩, List.forall_mem_cons.2 ⟨⟨x2b, by show w.heap.size ≤ w1.heap.size + 1; omega⟩, List.forall_mem_cons.2 ⟨⟨x4a, by show w.heap.size ≤ w3.heap.size; omega⟩, List.forall_mem_cons.2 ⟨⟨x5a, by show w.heap.size ≤ w4.heap.size; omega⟩, fun _ h => nomatch h⟩⟩⟩⟩⟩⟩) (ownDist (by simp <;> omega))
    (each_of ⟨?_, ?_, ?_, ?_, ?_, ?_, ?_, ?_, ?_, ?_, ?_, ?_, ?_, ?_, trivial⟩) ?_
  · exact .inl ⟨by simp, by simp, fun xf wq hk hbl hd K hK => by
      have y : Blk wq w3.heap.size 46 #[.bool b3, .slice A3 n3 c3] := hbl _ (List.Mem.tail _ (List.Mem.tail _ (List.Mem.tail _ (List.Mem.tail _ (List.Mem.head _))))) (by simp [Region.binds])
      obtain ⟨hcl0, hcl1⟩ := y.c2
      (try dsimp only)
      go_simp
      exact hK.out (.agg #[.bool b3, .slice A3 n3 c3]) _ rfl (brefl _)⟩
  · exact .inl ⟨by simp, by simp, fun xf wq hk hbl hd K hK => by
      have y : Blk wq w3.heap.size 46 #[.bool b3, .slice A3 n3 c3] := hbl _ (List.Mem.tail _ (List.Mem.tail _ (List.Mem.tail _ (List.Mem.tail _ (List.Mem.head _))))) (by simp [Region.binds])
      obtain ⟨hcl0, hcl1⟩ := y.c2
      (try dsimp only)
      go_simp
      exact hK.out (.agg #[.bool b3, .slice A3 n3 c3]) _ rfl (brefl _)⟩
  · exact .inl ⟨by simp, by simp, fun xf wq hk hbl hd K hK => by
      have dq0 : xf 0 = .agg #[.bool b3, .slice A3 n3 c3] := hd ⟨0, .data⟩ (by simp) rfl
      have dq1 : xf 1 = .agg #[.bool b3, .slice A3 n3 c3] := hd ⟨1, .data⟩ (by simp) rfl
      (try dsimp only); (try simp only [dq0, dq1])
      go_simp
      go_at_call 106
      (with_reducible refine (i_mul _ b3 A3 n3 c3 (((isq (q.num).natAbs : Nat) : Int)) (k) ?_ b3 A3 n3 c3 (((isq (q.num).natAbs : Nat) : Int)) (k) ?_ ?_).mono ?_); (exact (h3.keep hk).iz); (exact (h3.keep hk).iz); (first | omega | decide | assumption); rintro e wr ⟨b7, A7, n7, c7, rfl, h7, hbr⟩
      have hz := hK.out _ _ ⟨b7, A7, n7, c7, rfl, h7⟩ hbr
      simp only [dq0, dq1] at hz
      exact hz⟩
  · exact .inl ⟨by simp, by simp, fun xf wq hk hbl hd K hK => by
      have y : Blk wq w1.heap.size 46 #[.bool b1, .slice A1 n1 c1] := hbl _ (List.Mem.tail _ (List.Mem.tail _ (List.Mem.head _))) (by simp [Region.binds])
      obtain ⟨hcl0, hcl1⟩ := y.c2
      (try dsimp only)
      go_simp
      exact hK.out (.agg #[.bool b1, .slice A1 n1 c1]) _ rfl (brefl _)⟩
  · exact .inl ⟨by simp, by simp, fun xf wq hk hbl hd K hK => by
      obtain ⟨b7, A7, n7, c7, dq2, h7⟩ : VI ((((isq (q.num).natAbs : Nat) : Int)) * (((isq (q.num).natAbs : Nat) : Int))) ((k) + (k)) (xf 2) wq := hd ⟨2, .data⟩ (by simp) rfl
      have dq3 : xf 3 = .agg #[.bool b1, .slice A1 n1 c1] := hd ⟨3, .data⟩ (by simp) rfl
      (try dsimp only); (try simp only [dq2, dq3])
      go_simp
      go_at_call 59
      (with_reducible refine (i_cmp_v2 _ b7 A7 n7 c7 ((((isq (q.num).natAbs : Nat) : Int)) * (((isq (q.num).natAbs : Nat) : Int))) ((k) + (k)) ?_ b1 A1 n1 c1 ((q).num) ((k)) ?_ (0) HC1.out ?_).mono ?_); (exact h7.iz); (exact (h1.keep hk).iz); (first | omega | assumption); rintro e wr ⟨rfl, hbr⟩
      have hz := hK.out (.int .i64 (0)) _ rfl hbr
      simp only [dq2, dq3] at hz
      exact hz⟩
  · exact .inl ⟨by simp, by simp, fun xf wq hk hbl hd K hK => by
      have dq4 : xf 4 = .int .i64 (0) := hd ⟨4, .data⟩ (by simp) rfl
      (try dsimp only); (try simp only [dq4])
      go_simp
      have hz := hK.out (.bool false) _ rfl (brefl _)
      simp only [dq4] at hz
      exact hz⟩
  · exact .inl ⟨by simp, by simp, fun xf wq hk hbl hd K hK => by
      have dq5 : xf 5 = .bool false := hd ⟨5, .data⟩ (by simp) rfl
      (try dsimp only); (try simp only [dq5])
      go_simp
      have hz := hK.out (.bool false) _ rfl (brefl _)
      simp only [dq5] at hz
      exact hz⟩
  · exact .inl ⟨by simp, by simp, fun xf wq hk hbl hd K hK => by
      have dq6 : xf 6 = .bool false := hd ⟨6, .guard⟩ (by simp) rfl
      have y : Blk wq w4.heap.size 46 #[.bool b4, .slice A4 n4 c4] := hbl _ (List.Mem.tail _ (List.Mem.tail _ (List.Mem.tail _ (List.Mem.tail _ (List.Mem.tail _ (List.Mem.head _)))))) (by simp [Region.binds])
      obtain ⟨hcl0, hcl1⟩ := y.c2
      (try dsimp only); (try simp only [dq6])
      go_simp
      have hz := hK.out (.agg #[.bool b4, .slice A4 n4 c4]) _ rfl (brefl _)
      simp only [dq6] at hz
      exact hz⟩
  · exact .inl ⟨by simp, by simp, fun xf wq hk hbl hd K hK => by
      have dq6 : xf 6 = .bool false := hd ⟨6, .guard⟩ (by simp) rfl
      have y : Blk wq w4.heap.size 46 #[.bool b4, .slice A4 n4 c4] := hbl _ (List.Mem.tail _ (List.Mem.tail _ (List.Mem.tail _ (List.Mem.tail _ (List.Mem.tail _ (List.Mem.head _)))))) (by simp [Region.binds])
      obtain ⟨hcl0, hcl1⟩ := y.c2
      (try dsimp only); (try simp only [dq6])
      go_simp
      have hz := hK.out (.agg #[.bool b4, .slice A4 n4 c4]) _ rfl (brefl _)
      simp only [dq6] at hz
      exact hz⟩
  · exact .inl ⟨by simp, by simp, fun xf wq hk hbl hd K hK => by
      have dq7 : xf 7 = .agg #[.bool b4, .slice A4 n4 c4] := hd ⟨7, .data⟩ (by simp) rfl
      have dq8 : xf 8 = .agg #[.bool b4, .slice A4 n4 c4] := hd ⟨8, .data⟩ (by simp) rfl
      have dq6 : xf 6 = .bool false := hd ⟨6, .guard⟩ (by simp) rfl
      (try dsimp only); (try simp only [dq7, dq8, dq6])
      go_simp
      go_at_call 106
      (with_reducible refine (i_mul _ b4 A4 n4 c4 (((isq ((q.den : Int)).natAbs : Nat) : Int)) (k) ?_ b4 A4 n4 c4 (((isq ((q.den : Int)).natAbs : Nat) : Int)) (k) ?_ ?_).mono ?_); (exact (h4.keep hk).iz); (exact (h4.keep hk).iz); (first | omega | decide | assumption); rintro e wr ⟨b9, A9, n9, c9, rfl, h9, hbr⟩
      have hz := hK.out _ _ ⟨b9, A9, n9, c9, rfl, h9⟩ hbr
      simp only [dq7, dq8, dq6] at hz
      exact hz⟩
  · exact .inl ⟨by simp, by simp, fun xf wq hk hbl hd K hK => by
      have dq6 : xf 6 = .bool false := hd ⟨6, .guard⟩ (by simp) rfl
      have y : Blk wq (w1.heap.size + 1) 46 #[.bool b'1, .slice A'1 n'1 c'1] := hbl _ (List.Mem.tail _ (List.Mem.tail _ (List.Mem.tail _ (List.Mem.head _)))) (by simp [Region.binds])
      obtain ⟨hcl0, hcl1⟩ := y.c2
      (try dsimp only); (try simp only [dq6])
      go_simp
      have hz := hK.out (.agg #[.bool b'1, .slice A'1 n'1 c'1]) _ rfl (brefl _)
      simp only [dq6] at hz
      exact hz⟩
  · exact .inl ⟨by simp, by simp, fun xf wq hk hbl hd K hK => by
      obtain ⟨b9, A9, n9, c9, dq9, h9⟩ : VI ((((isq ((q.den : Int)).natAbs : Nat) : Int)) * (((isq ((q.den : Int)).natAbs : Nat) : Int))) ((k) + (k)) (xf 9) wq := hd ⟨9, .data⟩ (by simp) rfl
      have dq10 : xf 10 = .agg #[.bool b'1, .slice A'1 n'1 c'1] := hd ⟨10, .data⟩ (by simp) rfl
      have dq6 : xf 6 = .bool false := hd ⟨6, .guard⟩ (by simp) rfl
      (try dsimp only); (try simp only [dq9, dq10, dq6])
      go_simp
      go_at_call 59
      (with_reducible refine (i_cmp_v2 _ b9 A9 n9 c9 ((((isq ((q.den : Int)).natAbs : Nat) : Int)) * (((isq ((q.den : Int)).natAbs : Nat) : Int))) ((k) + (k)) ?_ b'1 A'1 n'1 c'1 (((q).den : Int)) ((k)) ?_ (-1) HC2.out ?_).mono ?_); (exact h9.iz); (exact (h'1.keep hk).iz); (first | omega | assumption); rintro e wr ⟨rfl, hbr⟩
      have hz := hK.out (.int .i64 (-1)) _ rfl hbr
      simp only [dq9, dq10, dq6] at hz
      exact hz⟩
  · exact .inl ⟨by simp, by simp, fun xf wq hk hbl hd K hK => by
      have dq11 : xf 11 = .int .i64 (-1) := hd ⟨11, .data⟩ (by simp) rfl
      have dq6 : xf 6 = .bool false := hd ⟨6, .guard⟩ (by simp) rfl
      (try dsimp only); (try simp only [dq11, dq6])
      go_simp
      have hz := hK.out (.bool true) _ rfl (brefl _)
      simp only [dq11, dq6] at hz
      exact hz⟩
  · exact .inl ⟨by simp, by simp, fun xf wq hk hbl hd K hK => by
      have dq6 : xf 6 = .bool false := hd ⟨6, .data⟩ (by simp) rfl
      have dq12 : xf 12 = .bool true := hd ⟨12, .data⟩ (by simp) rfl
      (try dsimp only); (try simp only [dq6, dq12])
      go_simp
      have hz := hK.out (.bool true) _ rfl (brefl _)
      simp only [dq6, dq12] at hz
      exact hz⟩
  clear cx2aa cx2ab lx2aa lx2ab lx2ac lx2ad cx2ba cx2bb lx2ba lx2bb lx2bc lx2bd cx4aa cx4ab lx4aa lx4ab lx4ac lx4ad cx5aa cx5ab lx5aa lx5ab lx5ac lx5ad
  intro y6 w6 kq6 hbl6 lw6 how hrr hfl hds
  replace h := h.keep kq6
  replace h1 := h1.keep kq6
  replace h'1 := h'1.keep kq6
  replace h3 := h3.keep kq6
  replace h4 := h4.keep kq6
  obtain ⟨_, z6_0, ez, _⟩ := how _ (List.Mem.head _)
  obtain rfl := ez (by simp)
  dsimp only at z6_0
  obtain ⟨_, z6_1, ez, _⟩ := how _ (List.Mem.tail _ (List.Mem.head _))
  obtain rfl := ez (by simp)
  dsimp only at z6_1
  obtain ⟨_, z6_2, ez, _⟩ := how _ (List.Mem.tail _ (List.Mem.tail _ (List.Mem.head _)))
  obtain rfl := ez (by simp)
  dsimp only at z6_2
  obtain ⟨_, z6_3, ez, _⟩ := how _ (List.Mem.tail _ (List.Mem.tail _ (List.Mem.tail _ (List.Mem.head _))))
  obtain rfl := ez (by simp)
  dsimp only at z6_3
  obtain ⟨_, z6_4, ez, _⟩ := how _ (List.Mem.tail _ (List.Mem.tail _ (List.Mem.tail _ (List.Mem.tail _ (List.Mem.head _)))))
  obtain rfl := ez (by simp)
  dsimp only at z6_4
  obtain ⟨_, z6_5, ez, _⟩ := how _ (List.Mem.tail _ (List.Mem.tail _ (List.Mem.tail _ (List.Mem.tail _ (List.Mem.tail _ (List.Mem.head _))))))
  obtain rfl := ez (by simp)
  dsimp only at z6_5
  have ea13 : y6 13 = .bool true := hrr 13 (by simp)
  (try dsimp only)
  simp only [ea13]
  clear hrr hfl how hds ea13
  clear x1a x1b x2a x2b x4a x5a
  have bw6 := bw5.trans hbl6
  clear bw5
  obtain ⟨cz6_1_0, cz6_1_1, cz6_1_2⟩ := z6_1.c3
  obtain ⟨fz6_1_0, fz6_1_1, fz6_1_2⟩ := z6_1.f3
  obtain ⟨lz6_1_0, lz6_1_1, lz6_1_2, lz6_1_3⟩ := lts1 z6_1.lt
  go_wp2_with fail
  refine bodyPost_ret (v := .tuple #[.agg #[.bool false, .slice none 0 0, .slice none 0 0], .bool false]) (by simp [results, Tryz.results47, go_sem, *] <;> first | rfl | exact ⟨rfl, rfl⟩) rfl ?_
  exact ⟨_, _, _, _, _, _, _, rfl, QV.zero _ _, (((bw6.sc (w.heap.size + 1) 0 (by omega) (.bool false)).sc (w.heap.size + 1) 1 (by omega) (.slice none 0 0)).sc (w.heap.size + 1) 2 (by omega) (.slice none 0 0))⟩
theorem f_root_cs (w : World) (b : Bool) (A : Option Addr) (n c : Nat) (D : Option Addr) (m e : Nat) (q : Rat) (k : Nat) (h : QZ w b A n c D m e q k) (h0 : 0 < k) (hk : k ≤ 1000000) (s : Int) (hx : q.num.sign = s) (h9 : 0 ≤ s) (h1 : ¬ isq q.num.natAbs * isq q.num.natAbs = q.num.natAbs) :
    Calls Tryz.prog 47 #[.agg #[.bool b, .slice A n c, .slice D m e]] w (RetFe w (.bool false) (0) k) := by
  have hp : 0 ≤ q.num := by rcases Int.lt_trichotomy q.num 0 with e | e | e
                            · rw [Int.sign_eq_neg_one_of_neg e] at hx; omega
                            · omega
                            · omega
  have HX := Lib.hid hx
  have HE1 := Lib.hid (And.intro (rootE_pos hp) (rootZ_pos hp))
  have HE2 := Lib.hid (And.intro (rootE_pos (z := (q.den : Int)) (by omega)) (rootZ_pos (z := (q.den : Int)) (by omega)))
  have HC1 := Lib.hid (cmp_sq1 hp h1)
  have es : (s < 0) = False := by simp; omega
  clear hx hp h9 h1
  go_enter Tryz.func47, Tryz.ntmps47
  go_wp2_with fail
  (with_reducible refine (f_parts _ b A n c D m e (q) (k) ?_ ?_ ?_).mono ?_); (exact (h.belw (((Below.refl _ _).alloc (Nat.le_refl _) _).alloc (by simp) _))); (first | omega | decide | assumption); (first | omega | decide | assumption); rintro e w1 ⟨b1, A1, n1, c1, b'1, A'1, n'1, c'1, rfl, h1, h'1, hb1⟩
  have q1 := (((Below.refl _ _).alloc (Nat.le_refl _) _).alloc (by simp) _).trans (hb1.mono (by simp <;> omega))
  replace h := h.belw q1
  have x1a : Blk w1 w.heap.size 24 #[.bool b, .slice A n c, .slice D m e] := ((blkAt _ _ _ (by simp)).alloc _).below hb1 (by simp <;> omega)
  have x1b := (blkAt _ _ _ (g := w.heap.size + 1) (by simp)).below hb1 (by simp)
  have bw1 := (brefl w).trans (q1.mono (brefl w).size)
  have lw1 : w.heap.size + 2 ≤ w1.heap.size := by have := hb1.size; simp at this; omega
  clear q1
  go_wp2_with fail
  (with_reducible refine (i_sign_e _ b1 A1 n1 c1 ((q).num) ((k)) ?_ s ?_ ?_).mono ?_); (exact (h1.belw (((Below.refl _ _).alloc (Nat.le_refl _) _).alloc (by simp) _)).iz); (exact HX.out); (omega); rintro e w2 ⟨rfl, hb2⟩
  have q2 := (((Below.refl _ _).alloc (Nat.le_refl _) _).alloc (by simp) _).trans (hb2.mono (by simp <;> omega))
  replace h := h.belw q2
  replace h1 := h1.belw q2
  replace h'1 := h'1.belw q2
  replace x1a := x1a.b q2
  replace x1b := x1b.b q2
  have x2a : Blk w2 w1.heap.size 46 #[.bool b1, .slice A1 n1 c1] := ((blkAt _ _ _ (by simp)).alloc _).below hb2 (by simp <;> omega)
  have x2b := (blkAt _ _ _ (g := w1.heap.size + 1) (by simp)).below hb2 (by simp)
  have bw2 := bw1.trans (q2.mono bw1.size)
  have lw2 : w1.heap.size + 2 ≤ w2.heap.size := by have := hb2.size; simp at this; omega
  clear q2 bw1
  obtain ⟨cx2aa, cx2ab⟩ := x2a.c2
  obtain ⟨lx2aa, lx2ab, lx2ac, lx2ad⟩ := lts0 x2a.lt
  go_wp2_with fail
  (with_reducible refine (i_root _ b1 A1 n1 c1 ((q).num) ((k)) ?_ (by omega) (.nilIface) HE1.out.1 ((isq (q.num).natAbs : Nat) : Int) HE1.out.2).mono ?_); (exact h1.iz); rintro e w3 ⟨b3, A3, n3, c3, rfl, h3, q3⟩
  clear cx2aa cx2ab lx2aa lx2ab lx2ac lx2ad
  replace h := h.belw q3
  replace h1 := h1.belw q3
  replace h'1 := h'1.belw q3
  replace x1a := x1a.b q3
  replace x1b := x1b.b q3
  replace x2a := x2a.b q3
  replace x2b := x2b.b q3
  have bw3 := bw2.trans (q3.mono bw2.size)
  have lw3 := q3.size
  clear q3 bw2
  obtain ⟨cx2ba, cx2bb⟩ := x2b.c2
  obtain ⟨lx2ba, lx2bb, lx2bc, lx2bd⟩ := lts1 x2b.lt
  go_wp2_with fail
  (with_reducible refine (i_root _ b'1 A'1 n'1 c'1 (((q).den : Int)) ((k)) ?_ (by omega) (.nilIface) HE2.out.1 ((isq ((q.den : Int)).natAbs : Nat) : Int) HE2.out.2).mono ?_); (exact (h'1.belw ((Below.refl _ _).alloc (Nat.le_refl _) _)).iz); rintro e w4 ⟨b4, A4, n4, c4, rfl, h4, hb4⟩
  clear cx2ba cx2bb lx2ba lx2bb lx2bc lx2bd
  have q4 := ((Below.refl _ _).alloc (Nat.le_refl _) _).trans (hb4.mono (by simp))
  replace h := h.belw q4
  replace h1 := h1.belw q4
  replace h'1 := h'1.belw q4
  replace h3 := h3.belw q4
  replace x1a := x1a.b q4
  replace x1b := x1b.b q4
  replace x2a := x2a.b q4
  replace x2b := x2b.b q4
  have x4a : Blk w4 w3.heap.size 46 #[.bool b3, .slice A3 n3 c3] := (blkAt _ _ _ (by simp)).below hb4 (by simp)
  have bw4 := bw3.trans (q4.mono bw3.size)
  have lw4 : w3.heap.size + 1 ≤ w4.heap.size := by have := hb4.size; simp at this; omega
  clear q4 bw3
  go_wp2_with fail
  have p5 := ((Kp.refl w4).alloc (.cells #[.bool b4, .slice A4 n4 c4] 46))
  have bw5 := (bw4.alloc (by first | omega | (simp <;> omega)) (.cells #[.bool b4, .slice A4 n4 c4] 46))
  have x5a : Blk (w4.alloc (.cells #[.bool b4, .slice A4 n4 c4] 46)) w4.heap.size 46 #[.bool b4, .slice A4 n4 c4] := (blkAt _ _ _ (by simp))
  replace x1a := (x1a.alloc (.cells #[.bool b4, .slice A4 n4 c4] 46))
  replace x1b := (x1b.alloc (.cells #[.bool b4, .slice A4 n4 c4] 46))
  replace x2a := (x2a.alloc (.cells #[.bool b4, .slice A4 n4 c4] 46))
  replace x2b := (x2b.alloc (.cells #[.bool b4, .slice A4 n4 c4] 46))
  replace x4a := (x4a.alloc (.cells #[.bool b4, .slice A4 n4 c4] 46))
  have lw5 : w4.heap.size + 1 ≤ (w4.alloc (.cells #[.bool b4, .slice A4 n4 c4] 46)).heap.size := by simp
  generalize hE5 : (w4.alloc (.cells #[.bool b4, .slice A4 n4 c4] 46)) = w5 at p5 bw5 lw5 x5a x1a x1b x2a x2b x4a ⊢
  clear hE5
  replace h := h.keep p5
  replace h1 := h1.keep p5
  replace h'1 := h'1.keep p5
  replace h3 := h3.keep p5
  replace h4 := h4.keep p5
  clear bw4
  obtain ⟨cx2aa, cx2ab⟩ := x2a.c2
  obtain ⟨lx2aa, lx2ab, lx2ac, lx2ad⟩ := lts0 x2a.lt
  obtain ⟨cx4aa, cx4ab⟩ := x4a.c2
  obtain ⟨lx4aa, lx4ab, lx4ac, lx4ad⟩ := lts0 x4a.lt
  refine wp_region_lin (B := w.heap.size) (fr := fun xf => ⟨List.toArray (.agg #[.bool b, .slice A n c, .slice D m e] :: .pointer (some ⟨w.heap.size, 0, none⟩) :: .pointer (some ⟨w.heap.size + 1, 0, none⟩) :: .bool false :: .pointer (some ⟨w1.heap.size, 0, none⟩) :: .pointer (some ⟨w1.heap.size + 1, 0, none⟩) :: .pointer (some ⟨w3.heap.size, 0, none⟩) :: .nilIface :: .pointer (some ⟨w4.heap.size, 0, none⟩) :: .nilIface :: .tuple #[.agg #[.bool b1, .slice A1 n1 c1], .agg #[.bool b'1, .slice A'1 n'1 c'1]] :: .agg #[.bool b, .slice A n c, .slice D m e] :: .tuple #[.agg #[.bool b1, .slice A1 n1 c1], .agg #[.bool b'1, .slice A'1 n'1 c'1]] :: .agg #[.bool b1, .slice A1 n1 c1] :: .agg #[.bool b'1, .slice A'1 n'1 c'1] :: .agg #[.bool b1, .slice A1 n1 c1] :: .int .i64 s :: .bool false :: undef :: .tuple #[.agg #[.bool b3, .slice A3 n3 c3], .nilIface] :: .agg #[.bool b1, .slice A1 n1 c1] :: .tuple #[.agg #[.bool b3, .slice A3 n3 c3], .nilIface] :: .agg #[.bool b3, .slice A3 n3 c3] :: .nilIface :: .tuple #[.agg #[.bool b4, .slice A4 n4 c4], .nilIface] :: .agg #[.bool b'1, .slice A'1 n'1 c'1] :: .tuple #[.agg #[.bool b4, .slice A4 n4 c4], .nilIface] :: .agg #[.bool b4, .slice A4 n4 c4] :: .nilIface :: xf 0 :: xf 1 :: xf 2 :: xf 3 :: xf 4 :: xf 5 :: xf 6 :: xf 7 :: xf 8 :: xf 9 :: xf 10 :: xf 11 :: xf 12 :: xf 13 :: undef :: undef :: undef :: undef :: []), []⟩) (R := fun ri => List.getD ((PEq (.agg #[.bool b3, .slice A3 n3 c3])) :: (PEq (.agg #[.bool b3, .slice A3 n3 c3])) :: (VI ((((isq (q.num).natAbs : Nat) : Int)) * (((isq (q.num).natAbs : Nat) : Int))) ((k) + (k))) :: (PEq (.agg #[.bool b1, .slice A1 n1 c1])) :: (PEq (.int .i64 (-1))) :: (PEq (.bool true)) :: (PEq (.bool true)) :: (PEq undef) :: (PEq undef) :: (PEq undef) :: (PEq undef) :: (PEq undef) :: (PEq undef) :: (PEq (.bool true)) :: []) ri (fun _ _ => True)) (es := []) (ow := [⟨w.heap.size, 14, 0, 24, #[.bool b, .slice A n c, .slice D m e], CAny⟩, ⟨w.heap.size + 1, 14, 0, 24, #[.bool false, .slice none 0 0, .slice none 0 0], CAny⟩, ⟨w1.heap.size, 14, 0, 46, #[.bool b1, .slice A1 n1 c1], CAny⟩, ⟨w1.heap.size + 1, 14, 0, 46, #[.bool b'1, .slice A'1 n'1 c'1], CAny⟩, ⟨w3.heap.size, 14, 0, 46, #[.bool b3, .slice A3 n3 c3], CAny⟩, ⟨w4.heap.size, 14, 0, 46, #[.bool b4, .slice A4 n4 c4], CAny⟩]) (x0 := (fun _ => undef)) (by kernel_rfl)
    (each_of ⟨fun _ _ => rfl, fun _ _ => rfl, fun _ _ => rfl, fun _ _ => rfl, fun _ _ => rfl, fun _ _ => rfl, fun _ _ => rfl, fun _ _ => rfl, fun _ _ => rfl, fun _ _ => rfl, fun _ _ => rfl, fun _ _ => rfl, fun _ _ => rfl, fun _ _ => rfl, trivial⟩) (each_of (acyc_from _ 0 (by kernel_rfl))) (AllStab.get _ ⟨stEq _, stEq _, stI _ _, stEq _, stEq _, stEq _, stEq _, stEq _, stEq _, stEq _, stEq _, stEq _, stEq _, stEq _, trivial⟩)
    (fun _ h => nomatch h) (List.forall_mem_cons.2 ⟨scAny, List.forall_mem_cons.2 ⟨scAny, List.forall_mem_cons.2 ⟨scAny, List.forall_mem_cons.2 ⟨scAny, List.forall_mem_cons.2 ⟨scAny, List.forall_mem_cons.2 ⟨scAny, fun _ h => nomatch h⟩⟩⟩⟩⟩⟩) (fun _ h => nomatch h) bw5.size
    (List.forall_mem_cons.2 ⟨⟨x1a, by show w.heap.size ≤ w.heap.size; omega⟩, List.forall_mem_cons.2 ⟨⟨x1b, by show w.heap.size ≤ w.heap.size + 1; omega⟩, List.forall_mem_cons.2 ⟨⟨x2a, by show w.heap.size ≤ w1.heap.size; omega⟩, List.forall_mem_cons.2 ⟨⟨x2b, by show w.heap.size ≤ w1.heap.size + 1; omega⟩, List.forall_mem_cons.2 ⟨⟨x4a, by show w.heap.size ≤ w3.heap.size; omega⟩, List.forall_mem_cons.2 ⟨⟨x5a, by show w.heap.size ≤ w4.heap.size; omega⟩, fun _ h => nomatch h⟩⟩⟩⟩⟩⟩) (ownDist (by simp <;> omega))
    (each_of ⟨?_, ?_, ?_, ?_, ?_, ?_, ?_, ?_, ?_, ?_, ?_, ?_, ?_, ?_, trivial⟩) ?_
  · exact .inl ⟨by simp, by simp, fun xf wq hk hbl hd K hK => by
      have y : Blk wq w3.heap.size 46 #[.bool b3, .slice A3 n3 c3] := hbl _ (List.Mem.tail _ (List.Mem.tail _ (List.Mem.tail _ (List.Mem.tail _ (List.Mem.head _))))) (by simp [Region.binds])
      obtain ⟨hcl0, hcl1⟩ := y.c2
      (try dsimp only)
      go_simp
      exact hK.out (.agg #[.bool b3, .slice A3 n3 c3]) _ rfl (brefl _)⟩
  · exact .inl ⟨by simp, by simp, fun xf wq hk hbl hd K hK => by
      have y : Blk wq w3.heap.size 46 #[.bool b3, .slice A3 n3 c3] := hbl _ (List.Mem.tail _ (List.Mem.tail _ (List.Mem.tail _ (List.Mem.tail _ (List.Mem.head _))))) (by simp [Region.binds])
      obtain ⟨hcl0, hcl1⟩ := y.c2
      (try dsimp only)
      go_simp
      exact hK.out (.agg #[.bool b3, .slice A3 n3 c3]) _ rfl (brefl _)⟩
  · exact .inl ⟨by simp, by simp, fun xf wq hk hbl hd K hK => by
      have dq0 : xf 0 = .agg #[.bool b3, .slice A3 n3 c3] := hd ⟨0, .data⟩ (by simp) rfl
      have dq1 : xf 1 = .agg #[.bool b3, .slice A3 n3 c3] := hd ⟨1, .data⟩ (by simp) rfl
      (try dsimp only); (try simp only [dq0, dq1])
      go_simp
      go_at_call 106
      (with_reducible refine (i_mul _ b3 A3 n3 c3 (((isq (q.num).natAbs : Nat) : Int)) (k) ?_ b3 A3 n3 c3 (((isq (q.num).natAbs : Nat) : Int)) (k) ?_ ?_).mono ?_); (exact (h3.keep hk).iz); (exact (h3.keep hk).iz); (first | omega | decide | assumption); rintro e wr ⟨b7, A7, n7, c7, rfl, h7, hbr⟩
      have hz := hK.out _ _ ⟨b7, A7, n7, c7, rfl, h7⟩ hbr
      simp only [dq0, dq1] at hz
      exact hz⟩
  · exact .inl ⟨by simp, by simp, fun xf wq hk hbl hd K hK => by
      have y : Blk wq w1.heap.size 46 #[.bool b1, .slice A1 n1 c1] := hbl _ (List.Mem.tail _ (List.Mem.tail _ (List.Mem.head _))) (by simp [Region.binds])
      obtain ⟨hcl0, hcl1⟩ := y.c2
      (try dsimp only)
      go_simp
      exact hK.out (.agg #[.bool b1, .slice A1 n1 c1]) _ rfl (brefl _)⟩
  · exact .inl ⟨by simp, by simp, fun xf wq hk hbl hd K hK => by
      obtain ⟨b7, A7, n7, c7, dq2, h7⟩ : VI ((((isq (q.num).natAbs : Nat) : Int)) * (((isq (q.num).natAbs : Nat) : Int))) ((k) + (k)) (xf 2) wq := hd ⟨2, .data⟩ (by simp) rfl
      have dq3 : xf 3 = .agg #[.bool b1, .slice A1 n1 c1] := hd ⟨3, .data⟩ (by simp) rfl
      (try dsimp only); (try simp only [dq2, dq3])
      go_simp
      go_at_call 59
      (with_reducible refine (i_cmp_v2 _ b7 A7 n7 c7 ((((isq (q.num).natAbs : Nat) : Int)) * (((isq (q.num).natAbs : Nat) : Int))) ((k) + (k)) ?_ b1 A1 n1 c1 ((q).num) ((k)) ?_ (-1) HC1.out ?_).mono ?_); (exact h7.iz); (exact (h1.keep hk).iz); (first | omega | assumption); rintro e wr ⟨rfl, hbr⟩
      have hz := hK.out (.int .i64 (-1)) _ rfl hbr
      simp only [dq2, dq3] at hz
      exact hz⟩
  · exact .inl ⟨by simp, by simp, fun xf wq hk hbl hd K hK => by
      have dq4 : xf 4 = .int .i64 (-1) := hd ⟨4, .data⟩ (by simp) rfl
      (try dsimp only); (try simp only [dq4])
      go_simp
      have hz := hK.out (.bool true) _ rfl (brefl _)
      simp only [dq4] at hz
      exact hz⟩
  · exact .inl ⟨by simp, by simp, fun xf wq hk hbl hd K hK => by
      have dq5 : xf 5 = .bool true := hd ⟨5, .data⟩ (by simp) rfl
      (try dsimp only); (try simp only [dq5])
      go_simp
      have hz := hK.out (.bool true) _ rfl (brefl _)
      simp only [dq5] at hz
      exact hz⟩
  · exact .inl ⟨by simp, by simp, fun xf wq hk hbl hd K hK => by
      have dq6 : xf 6 = .bool true := hd ⟨6, .guard⟩ (by simp) rfl
      (try dsimp only); (try simp only [dq6])
      go_simp
      have hz := hK.out undef _ rfl (brefl _)
      simp only [dq6] at hz
      exact hz⟩
  · exact .inl ⟨by simp, by simp, fun xf wq hk hbl hd K hK => by
      have dq6 : xf 6 = .bool true := hd ⟨6, .guard⟩ (by simp) rfl
      (try dsimp only); (try simp only [dq6])
      go_simp
      have hz := hK.out undef _ rfl (brefl _)
      simp only [dq6] at hz
      exact hz⟩
  · exact .inl ⟨by simp, by simp, fun xf wq hk hbl hd K hK => by
      have dq6 : xf 6 = .bool true := hd ⟨6, .guard⟩ (by simp) rfl
      (try dsimp only); (try simp only [dq6])
      go_simp
      have hz := hK.out undef _ rfl (brefl _)
      simp only [dq6] at hz
      exact hz⟩
  · exact .inl ⟨by simp, by simp, fun xf wq hk hbl hd K hK => by
      have dq6 : xf 6 = .bool true := hd ⟨6, .guard⟩ (by simp) rfl
      (try dsimp only); (try simp only [dq6])
      go_simp
      have hz := hK.out undef _ rfl (brefl _)
      simp only [dq6] at hz
      exact hz⟩
  · exact .inl ⟨by simp, by simp, fun xf wq hk hbl hd K hK => by
      have dq6 : xf 6 = .bool true := hd ⟨6, .guard⟩ (by simp) rfl
      (try dsimp only); (try simp only [dq6])
      go_simp
      have hz := hK.out undef _ rfl (brefl _)
      simp only [dq6] at hz
      exact hz⟩
  · exact .inl ⟨by simp, by simp, fun xf wq hk hbl hd K hK => by
      have dq6 : xf 6 = .bool true := hd ⟨6, .guard⟩ (by simp) rfl
      (try dsimp only); (try simp only [dq6])
      go_simp
      have hz := hK.out undef _ rfl (brefl _)
      simp only [dq6] at hz
      exact hz⟩
  · exact .inl ⟨by simp, by simp, fun xf wq hk hbl hd K hK => by
      have dq6 : xf 6 = .bool true := hd ⟨6, .data⟩ (by simp) rfl
      have dq12 : xf 12 = undef := hd ⟨12, .data⟩ (by simp) rfl
      (try dsimp only); (try simp only [dq6, dq12])
      go_simp
      have hz := hK.out (.bool true) _ rfl (brefl _)
      simp only [dq6, dq12] at hz
      exact hz⟩
  clear cx2aa cx2ab lx2aa lx2ab lx2ac lx2ad cx4aa cx4ab lx4aa lx4ab lx4ac lx4ad
  intro y6 w6 kq6 hbl6 lw6 how hrr hfl hds
  replace h := h.keep kq6
  replace h1 := h1.keep kq6
  replace h'1 := h'1.keep kq6
  replace h3 := h3.keep kq6
  replace h4 := h4.keep kq6
  obtain ⟨_, z6_0, ez, _⟩ := how _ (List.Mem.head _)
  obtain rfl := ez (by simp)
  dsimp only at z6_0
  obtain ⟨_, z6_1, ez, _⟩ := how _ (List.Mem.tail _ (List.Mem.head _))
  obtain rfl := ez (by simp)
  dsimp only at z6_1
  obtain ⟨_, z6_2, ez, _⟩ := how _ (List.Mem.tail _ (List.Mem.tail _ (List.Mem.head _)))
  obtain rfl := ez (by simp)
  dsimp only at z6_2
  obtain ⟨_, z6_3, ez, _⟩ := how _ (List.Mem.tail _ (List.Mem.tail _ (List.Mem.tail _ (List.Mem.head _))))
  obtain rfl := ez (by simp)
  dsimp only at z6_3
  obtain ⟨_, z6_4, ez, _⟩ := how _ (List.Mem.tail _ (List.Mem.tail _ (List.Mem.tail _ (List.Mem.tail _ (List.Mem.head _)))))
  obtain rfl := ez (by simp)
  dsimp only at z6_4
  obtain ⟨_, z6_5, ez, _⟩ := how _ (List.Mem.tail _ (List.Mem.tail _ (List.Mem.tail _ (List.Mem.tail _ (List.Mem.tail _ (List.Mem.head _))))))
  obtain rfl := ez (by simp)
  dsimp only at z6_5
  have ea13 : y6 13 = .bool true := hrr 13 (by simp)
  (try dsimp only)
  simp only [ea13]
  clear hrr hfl how hds ea13
  clear x1a x1b x2a x2b x4a x5a
  have bw6 := bw5.trans hbl6
  clear bw5
  obtain ⟨cz6_1_0, cz6_1_1, cz6_1_2⟩ := z6_1.c3
  obtain ⟨fz6_1_0, fz6_1_1, fz6_1_2⟩ := z6_1.f3
  obtain ⟨lz6_1_0, lz6_1_1, lz6_1_2, lz6_1_3⟩ := lts1 z6_1.lt
  go_wp2_with fail
  refine bodyPost_ret (v := .tuple #[.agg #[.bool false, .slice none 0 0, .slice none 0 0], .bool false]) (by simp [results, Tryz.results47, go_sem, *] <;> first | rfl | exact ⟨rfl, rfl⟩) rfl ?_
  exact ⟨_, _, _, _, _, _, _, rfl, QV.zero _ _, (((bw6.sc (w.heap.size + 1) 0 (by omega) (.bool false)).sc (w.heap.size + 1) 1 (by omega) (.slice none 0 0)).sc (w.heap.size + 1) 2 (by omega) (.slice none 0 0))⟩
theorem f_root (w : World) (b : Bool) (A : Option Addr) (n c : Nat) (D : Option Addr) (m e : Nat) (q : Rat) (k : Nat) (h : QZ w b A n c D m e q k) (h0 : 0 < k) (hk : k ≤ 1000000) (v : Bool) (r : Rat) (hv : rootOk q = v) (hr : rootQ q = r) : Calls Tryz.prog 47 #[.agg #[.bool b, .slice A n c, .slice D m e]] w (RetFe w (.bool v) r k) := by
  subst hv hr
  have hn : q.num.sign = -1 → rootOk q = false := fun e => by
    have := Int.sign_eq_neg_one_iff_neg.1 e
    unfold rootOk
    rw [decide_eq_false (show ¬ 0 ≤ q.num by omega)]; rfl
  have hp : q.num.sign ≠ -1 → 0 ≤ q.num := fun e => by
    rcases Int.lt_trichotomy q.num 0 with x | x | x
    · exact absurd (Int.sign_eq_neg_one_of_neg x) e
    · omega
    · omega
  by_cases h1 : isq q.num.natAbs * isq q.num.natAbs = q.num.natAbs
  · by_cases h2 : isq q.den * isq q.den = q.den
    · have ho : 0 ≤ q.num → rootOk q = true ∧ rootQ q = Rat.divInt ((isq q.num.natAbs : Nat) : Int) ((isq q.den : Nat) : Int) := fun e => by
        have : rootOk q = true := by unfold rootOk; rw [decide_eq_true e, decide_eq_true h1, decide_eq_true h2]; rfl
        exact ⟨this, by unfold rootQ; rw [this]; rfl⟩
      rcases sign3 q.num with s | s | s
      · have := ho (by omega)
        rw [this.1, this.2]
        exact f_root_as w b A n c D m e q k h h0 hk _ rfl (by rw [s]; decide) h1 h2
      · have := ho (hp (by rw [s]; decide))
        rw [this.1, this.2]
        exact f_root_as w b A n c D m e q k h h0 hk _ rfl (by rw [s]; decide) h1 h2
      · have e1 := hn s
        rw [show rootQ q = 0 by unfold rootQ; rw [e1]; rfl, e1]
        exact f_root_n w b A n c D m e q k h h0 hk s
    · have e1 : rootOk q = false := by unfold rootOk; rw [decide_eq_false h2]; exact Bool.and_false _
      rw [show rootQ q = 0 by unfold rootQ; rw [e1]; rfl, e1]
      rcases sign3 q.num with s | s | s
      · exact f_root_bs w b A n c D m e q k h h0 hk _ rfl (by rw [s]; decide) h1 h2
      · exact f_root_bs w b A n c D m e q k h h0 hk _ rfl (by rw [s]; decide) h1 h2
      · exact f_root_n w b A n c D m e q k h h0 hk s
  · have e1 : rootOk q = false := by unfold rootOk; rw [decide_eq_false h1, Bool.and_false]; rfl
    rw [show rootQ q = 0 by unfold rootQ; rw [e1]; rfl, e1]
    rcases sign3 q.num with s | s | s
    · exact f_root_cs w b A n c D m e q k h h0 hk _ rfl (by rw [s]; decide) h1
    · exact f_root_cs w b A n c D m e q k h h0 hk _ rfl (by rw [s]; decide) h1
    · exact f_root_n w b A n c D m e q k h h0 hk s
end Go.Proofs.YtkpjhmpjihchpaaGreatDoor
