/- IntegerValid: Valid, Of, Int, Sign and Bits are those of the reference, for any data of an integer and any int; for every input the law returns true. The listed library tables are tied to the program text. -/
import Derived.Deep.RegionHeld3
import Derived.Deep.DrawnRows
import Derived.Test.YtkehcfclggmblaaDoorA3
set_option linter.unusedVariables false
/- Walks: Int. -/
namespace Go.Proofs.YtkehcfclggmblaaDoor
open Go Go.RowKit Bn
/-- An integer as an int, if it fits. -/
def intFit (z : Int) : Bool := decide (-9223372036854775808 ≤ z ∧ z ≤ 9223372036854775807)
def intV (z : Int) : Value := .tuple #[.int .i64 (if intFit z then z else 0), .bool (intFit z)]
theorem intFit_true {z : Int} (h0 : -9223372036854775808 ≤ z) (h1 : z ≤ 9223372036854775807) : intFit z = true := by unfold intFit; simp; exact ⟨h0, h1⟩
theorem intFit_false {z : Int} (h : z < -9223372036854775808 ∨ 9223372036854775807 < z) : intFit z = false := by unfold intFit; simp; omega
theorem s_pos {b : Bool} {l : List Nat} {M : Nat} (hM : WD.m ⟨b, l⟩ = digs M) (hs : WD.s ⟨b, l⟩ = true) : 0 < M := by
  rcases Nat.eq_zero_or_pos M with e | e
  · exfalso
    rw [e, digs_zero] at hM
    unfold WD.s at hs
    unfold WD.m at hM
    cases ho : WD.ok ⟨b, l⟩
    · rw [ho] at hs; exact absurd hs (by simp)
    · rw [ho] at hs hM
      simp only [if_true] at hM
      simp only [Bool.true_and] at hs
      subst hs
      subst hM
      exact absurd ho (by decide)
  · exact e
theorem rx_neg_e (w : World) (b : Bool) (A : Option Addr) (n c : Nat) (l : List Nat) (s : Bool) (wa : Wd w A n c l) (hn : n ≤ 1099511627000) (hs : WD.s ⟨b, l⟩ = s) :
    Calls Tryd.prog 51 #[.agg #[.bool b, .slice A n c]] w (RetV w (.bool s)) := by subst hs; exact r_neg_c w b A n c l wa (by omega)
theorem word_0 (w : World) (A : Option Addr) (n c : Nat) (l : List Nat) (h : Wd w A n c l) (y : Nat) (hy : wd l 0 = y) (hn : n ≤ 4398046511104) : Calls Tryd.prog 59 #[.slice A n c, .int .i64 0] w (fun e w' => e = .returned (.int .u64 (y : Nat)) ∧ w = w') := word_x w A n c l h 0 y hy hn
theorem word_1 (w : World) (A : Option Addr) (n c : Nat) (l : List Nat) (h : Wd w A n c l) (y : Nat) (hy : wd l 1 = y) (hn : n ≤ 4398046511104) : Calls Tryd.prog 59 #[.slice A n c, .int .i64 1] w (fun e w' => e = .returned (.int .u64 (y : Nat)) ∧ w = w') := word_x w A n c l h 1 y hy hn
theorem r_word_0 (w : World) (A : Option Addr) (n c : Nat) (l : List Nat) (h : Wd w A n c l) (y : Nat) (hy : wd l 0 = y) (hn : n ≤ 4398046511104) : Calls Tryd.prog 60 #[.slice A n c, .int .i64 0] w (fun e w' => e = .returned (.int .u64 (y : Nat)) ∧ w = w') := r_word_x w A n c l h 0 y hy hn
theorem r_word_1 (w : World) (A : Option Addr) (n c : Nat) (l : List Nat) (h : Wd w A n c l) (y : Nat) (hy : wd l 1 = y) (hn : n ≤ 4398046511104) : Calls Tryd.prog 60 #[.slice A n c, .int .i64 1] w (fun e w' => e = .returned (.int .u64 (y : Nat)) ∧ w = w') := r_word_x w A n c l h 1 y hy hn
set_option maxRecDepth 100000 in
set_option maxHeartbeats 2000000 in
/-- integer.Int -/
theorem int_C (w : World) (b : Bool) (A : Option Addr) (n c : Nat) (l : List Nat) (wa : Wd w A n c l) (hn : n ≤ 1099511627000) :
    Calls Tryd.prog 19 #[.agg #[.bool b, .slice A n c]] w (RetV w (intV (WD.z ⟨b, l⟩))) := by
  have HL := Lib.hid wa.2.1
  have hcm : Canon (WD.m ⟨b, l⟩) := WD.canon_m wa.1
  obtain ⟨M, hM⟩ : ∃ M, WD.m ⟨b, l⟩ = digs M := ⟨_, (digs_val hcm).symm⟩
  have hze := WD.z_eq ⟨b, l⟩
  rw [hM, val_digs] at hze
  have b1 : Below w.heap.size w (w.alloc (.cells #[.bool b, .slice A n c] 24)) := (Below.refl _ _).alloc (Nat.le_refl _) _
  have x1 : Blk (w.alloc (.cells #[.bool b, .slice A n c] 24)) w.heap.size 24 #[.bool b, .slice A n c] := blkAt _ _ _ rfl
  obtain ⟨Z, hZ⟩ : ∃ Z, WD.z ⟨b, l⟩ = Z := ⟨_, rfl⟩
  rw [hZ] at hze ⊢
  have HM := Lib.hid hM
  obtain ⟨s, hs⟩ : ∃ s, WD.s ⟨b, l⟩ = s := ⟨_, rfl⟩
  have hsp : s = true → 0 < M := fun e => s_pos hM (hs.trans e)
  have HS := Lib.hid hs
  rw [hs] at hze
  clear hM hs hcm hZ
  have hB : (4294967296 : Nat) ^ 2 = 18446744073709551616 := by decide
  by_cases hbig : M < 18446744073709551616
  · have hx0 : wd (digs M) 0 = M % 4294967296 := by rw [wd_val (wds_digs _), val_digs]; simp
    have hx1 : wd (digs M) 1 = M / 4294967296 := by rw [wd_val (wds_digs _), val_digs, Nat.pow_one]; omega
    have HX0 := Lib.hid hx0
    have HX1 := Lib.hid hx1
    have hlen : (digs M).length ≤ 2 := length_digs_le (by omega)
    have HLN := Lib.hid hlen
    have e9 : bits .or .u64 ((M % 4294967296 : Nat) : Int) (((M / 4294967296 : Nat) : Int) * 4294967296) = (M : Int) := by
      have e : ((M / 4294967296 : Nat) : Int) * 4294967296 = ((M / 4294967296 * 4294967296 : Nat) : Int) := by simp
      rw [e, u64_or_nat _ _ (by omega) (by omega), Nat.or_comm, or_shift _ _ (by omega)]
      rw [show M / 4294967296 * 4294967296 + M % 4294967296 = M by omega]
    obtain ⟨y0, hy0⟩ : ∃ y, M % 4294967296 = y := ⟨_, rfl⟩
    obtain ⟨y1, hy1⟩ : ∃ y, M / 4294967296 = y := ⟨_, rfl⟩
    rw [hy0, hy1] at e9
    rw [hy0] at HX0
    rw [hy1] at HX1
    have hy0b : y0 < 4294967296 := by omega
    have hy1b : y1 < 4294967296 := by omega
    have HY := Lib.hid (And.intro hy0 hy1)
    clear hx0 hx1 hlen hy0 hy1 hB
    cases s with
    | true =>
      have hMp := hsp rfl
      clear hsp
      by_cases hf : M ≤ 9223372036854775808
      · have hV : intV Z = .tuple #[.int .i64 (-(M : Int)), .bool true] := by
          have e : Z = -(M : Int) := hze
          subst e; unfold intV; rw [intFit_true (by omega) (by omega), if_pos rfl]
        rw [hV]
        have g1 : IntKind.u64.wrap (-(M : Int)) = 18446744073709551616 - (M : Int) := by unfold IntKind.wrap; simp [IntKind.bits, IntKind.signed]; omega
        have g2 : IntKind.i64.wrap (18446744073709551616 - (M : Int)) = -(M : Int) := by unfold IntKind.wrap; simp [IntKind.bits, IntKind.signed]; omega
        clear hV hze
        go_enter Tryd.func19, Tryd.ntmps19
        go_wp2_with (first
          | (go_at_call 41; (with_reducible refine (mag_c _ b A n c l ?_ ?_).mono ?_); (exact wa.belw b1); (omega); rintro e w2 ⟨A1, n1, c1, rfl, h1, hb2⟩; have x2 := x1.below hb2 x1.lt; have b2 := b1.trans (hb2.mono b1.size); rw [HM.out] at h1; have e1 : n1 ≤ 2 := (by rw [h1.2.1]; exact HLN.out); have e2 : (n1 : Int) ≤ 2 := (by omega); obtain ⟨cx0, cx1⟩ := x2.c2)
          | (go_at_call 59; (with_reducible refine (word_0 _ A1 n1 c1 (digs M) h1 y0 HX0.out (by omega)).mono ?_); rintro e w' ⟨rfl, rfl⟩)
          | (go_at_call 59; (with_reducible refine (word_1 _ A1 n1 c1 (digs M) h1 y1 HX1.out (by omega)).mono ?_); rintro e w' ⟨rfl, rfl⟩)
          | (go_at_call 43; (with_reducible refine (neg_e _ b A n c l true ?_ ?_ HS.out).mono ?_); (exact wa.belw b2); (omega); rintro e w3 ⟨rfl, hb3⟩; have x3 := x2.below hb3 x2.lt; replace b2 := b2.trans (hb3.mono b2.size); clear x2; have x2 := x3; clear x3; clear cx0 cx1; obtain ⟨cx0, cx1⟩ := x2.c2))
        refine bodyPost_ret (v := .tuple #[.int .i64 (-(M : Int)), .bool true]) (by simp [results, Tryd.results19, go_sem, *] <;> first | rfl | exact ⟨rfl, rfl⟩) rfl ?_
        exact ⟨rfl, b2⟩
      · have hV : intV Z = .tuple #[.int .i64 0, .bool false] := by
          have e : Z = -(M : Int) := hze
          subst e; unfold intV; rw [intFit_false (by omega), if_neg (by simp)]
        rw [hV]
        clear hV hze
        go_enter Tryd.func19, Tryd.ntmps19
        go_wp2_with (first
          | (go_at_call 41; (with_reducible refine (mag_c _ b A n c l ?_ ?_).mono ?_); (exact wa.belw b1); (omega); rintro e w2 ⟨A1, n1, c1, rfl, h1, hb2⟩; have x2 := x1.below hb2 x1.lt; have b2 := b1.trans (hb2.mono b1.size); rw [HM.out] at h1; have e1 : n1 ≤ 2 := (by rw [h1.2.1]; exact HLN.out); have e2 : (n1 : Int) ≤ 2 := (by omega); obtain ⟨cx0, cx1⟩ := x2.c2)
          | (go_at_call 59; (with_reducible refine (word_0 _ A1 n1 c1 (digs M) h1 y0 HX0.out (by omega)).mono ?_); rintro e w' ⟨rfl, rfl⟩)
          | (go_at_call 59; (with_reducible refine (word_1 _ A1 n1 c1 (digs M) h1 y1 HX1.out (by omega)).mono ?_); rintro e w' ⟨rfl, rfl⟩)
          | (go_at_call 43; (with_reducible refine (neg_e _ b A n c l true ?_ ?_ HS.out).mono ?_); (exact wa.belw b2); (omega); rintro e w3 ⟨rfl, hb3⟩; have x3 := x2.below hb3 x2.lt; replace b2 := b2.trans (hb3.mono b2.size); clear x2; have x2 := x3; clear x3; clear cx0 cx1; obtain ⟨cx0, cx1⟩ := x2.c2))
        refine bodyPost_ret (v := .tuple #[.int .i64 0, .bool false]) (by simp [results, Tryd.results19, go_sem, *] <;> first | rfl | exact ⟨rfl, rfl⟩) rfl ?_
        exact ⟨rfl, b2⟩
    | false =>
      clear hsp
      by_cases hf : M < 9223372036854775808
      · have hV : intV Z = .tuple #[.int .i64 (M : Int), .bool true] := by
          have e : Z = (M : Int) := by rw [hze]; unfold sgn; simp
          subst e; unfold intV; rw [intFit_true (by omega) (by omega), if_pos rfl]
        rw [hV]
        have g2 : IntKind.i64.wrap (M : Int) = (M : Int) := by unfold IntKind.wrap; simp [IntKind.bits, IntKind.signed]; omega
        have k1 : ((9223372036854775808 : Int) ≤ (M : Int)) = False := by simp; omega
        have k2 : ((M : Int) < 9223372036854775808) = True := by simp; omega
        clear hV hze hf
        go_enter Tryd.func19, Tryd.ntmps19
        go_wp2_with (first
          | (go_at_call 41; (with_reducible refine (mag_c _ b A n c l ?_ ?_).mono ?_); (exact wa.belw b1); (omega); rintro e w2 ⟨A1, n1, c1, rfl, h1, hb2⟩; have x2 := x1.below hb2 x1.lt; have b2 := b1.trans (hb2.mono b1.size); rw [HM.out] at h1; have e1 : n1 ≤ 2 := (by rw [h1.2.1]; exact HLN.out); have e2 : (n1 : Int) ≤ 2 := (by omega); obtain ⟨cx0, cx1⟩ := x2.c2)
          | (go_at_call 59; (with_reducible refine (word_0 _ A1 n1 c1 (digs M) h1 y0 HX0.out (by omega)).mono ?_); rintro e w' ⟨rfl, rfl⟩)
          | (go_at_call 59; (with_reducible refine (word_1 _ A1 n1 c1 (digs M) h1 y1 HX1.out (by omega)).mono ?_); rintro e w' ⟨rfl, rfl⟩)
          | (go_at_call 43; (with_reducible refine (neg_e _ b A n c l false ?_ ?_ HS.out).mono ?_); (exact wa.belw b2); (omega); rintro e w3 ⟨rfl, hb3⟩; have x3 := x2.below hb3 x2.lt; replace b2 := b2.trans (hb3.mono b2.size); clear x2; have x2 := x3; clear x3; clear cx0 cx1; obtain ⟨cx0, cx1⟩ := x2.c2))
        refine bodyPost_ret (v := .tuple #[.int .i64 (M : Int), .bool true]) (by simp [results, Tryd.results19, go_sem, *] <;> first | rfl | exact ⟨rfl, rfl⟩) rfl ?_
        exact ⟨rfl, b2⟩
      · have hV : intV Z = .tuple #[.int .i64 0, .bool false] := by
          have e : Z = (M : Int) := by rw [hze]; unfold sgn; simp
          subst e; unfold intV; rw [intFit_false (by omega), if_neg (by simp)]
        rw [hV]
        have k1 : ((9223372036854775808 : Int) ≤ (M : Int)) = True := by simp; omega
        have k2 : ((M : Int) < 9223372036854775808) = False := by simp; omega
        clear hV hze hf
        go_enter Tryd.func19, Tryd.ntmps19
        go_wp2_with (first
          | (go_at_call 41; (with_reducible refine (mag_c _ b A n c l ?_ ?_).mono ?_); (exact wa.belw b1); (omega); rintro e w2 ⟨A1, n1, c1, rfl, h1, hb2⟩; have x2 := x1.below hb2 x1.lt; have b2 := b1.trans (hb2.mono b1.size); rw [HM.out] at h1; have e1 : n1 ≤ 2 := (by rw [h1.2.1]; exact HLN.out); have e2 : (n1 : Int) ≤ 2 := (by omega); obtain ⟨cx0, cx1⟩ := x2.c2)
          | (go_at_call 59; (with_reducible refine (word_0 _ A1 n1 c1 (digs M) h1 y0 HX0.out (by omega)).mono ?_); rintro e w' ⟨rfl, rfl⟩)
          | (go_at_call 59; (with_reducible refine (word_1 _ A1 n1 c1 (digs M) h1 y1 HX1.out (by omega)).mono ?_); rintro e w' ⟨rfl, rfl⟩)
          | (go_at_call 43; (with_reducible refine (neg_e _ b A n c l false ?_ ?_ HS.out).mono ?_); (exact wa.belw b2); (omega); rintro e w3 ⟨rfl, hb3⟩; have x3 := x2.below hb3 x2.lt; replace b2 := b2.trans (hb3.mono b2.size); clear x2; have x2 := x3; clear x3; clear cx0 cx1; obtain ⟨cx0, cx1⟩ := x2.c2))
        refine bodyPost_ret (v := .tuple #[.int .i64 0, .bool false]) (by simp [results, Tryd.results19, go_sem, *] <;> first | rfl | exact ⟨rfl, rfl⟩) rfl ?_
        exact ⟨rfl, b2⟩
  · have hV : intV Z = .tuple #[.int .i64 0, .bool false] := by
      unfold intV
      rw [intFit_false (by rw [hze]; unfold sgn; split <;> omega), if_neg (by simp)]
    rw [hV]
    have HLN := Lib.hid (show 2 < (digs M).length by
      rcases Nat.lt_or_ge 2 (digs M).length with h | h
      · exact h
      · exact absurd (lt_of_length_digs h) (by omega))
    clear hV hze hsp hB
    go_enter Tryd.func19, Tryd.ntmps19
    go_wp2_with (go_at_call 41; (with_reducible refine (mag_c _ b A n c l ?_ ?_).mono ?_); (exact wa.belw b1); (omega); rintro e w2 ⟨A1, n1, c1, rfl, h1, hb2⟩; rw [HM.out] at h1; have e1 : 2 < n1 := (by rw [h1.2.1]; exact HLN.out))
    refine bodyPost_ret (v := .tuple #[.int .i64 0, .bool false]) (by simp [results, Tryd.results19, go_sem, *] <;> first | rfl | exact ⟨rfl, rfl⟩) rfl ?_
    exact ⟨rfl, b1.trans (hb2.mono b1.size)⟩
set_option maxRecDepth 100000 in
set_option maxHeartbeats 2000000 in
/-- linkworkref01.Int -/
theorem r_int_C (w : World) (b : Bool) (A : Option Addr) (n c : Nat) (l : List Nat) (wa : Wd w A n c l) (hn : n ≤ 1099511627000) :
    Calls Tryd.prog 20 #[.agg #[.bool b, .slice A n c]] w (RetV w (intV (WD.z ⟨b, l⟩))) := by
  have HL := Lib.hid wa.2.1
  have hcm : Canon (WD.m ⟨b, l⟩) := WD.canon_m wa.1
  obtain ⟨M, hM⟩ : ∃ M, WD.m ⟨b, l⟩ = digs M := ⟨_, (digs_val hcm).symm⟩
  have hze := WD.z_eq ⟨b, l⟩
  rw [hM, val_digs] at hze
  have b1 : Below w.heap.size w (w.alloc (.cells #[.bool b, .slice A n c] 24)) := (Below.refl _ _).alloc (Nat.le_refl _) _
  have x1 : Blk (w.alloc (.cells #[.bool b, .slice A n c] 24)) w.heap.size 24 #[.bool b, .slice A n c] := blkAt _ _ _ rfl
  obtain ⟨Z, hZ⟩ : ∃ Z, WD.z ⟨b, l⟩ = Z := ⟨_, rfl⟩
  rw [hZ] at hze ⊢
  have HM := Lib.hid hM
  obtain ⟨s, hs⟩ : ∃ s, WD.s ⟨b, l⟩ = s := ⟨_, rfl⟩
  have hsp : s = true → 0 < M := fun e => s_pos hM (hs.trans e)
  have HS := Lib.hid hs
  rw [hs] at hze
  clear hM hs hcm hZ
  have hB : (4294967296 : Nat) ^ 2 = 18446744073709551616 := by decide
  by_cases hbig : M < 18446744073709551616
  · have hx0 : wd (digs M) 0 = M % 4294967296 := by rw [wd_val (wds_digs _), val_digs]; simp
    have hx1 : wd (digs M) 1 = M / 4294967296 := by rw [wd_val (wds_digs _), val_digs, Nat.pow_one]; omega
    have HX0 := Lib.hid hx0
    have HX1 := Lib.hid hx1
    have hlen : (digs M).length ≤ 2 := length_digs_le (by omega)
    have HLN := Lib.hid hlen
    have e9 : bits .or .u64 ((M % 4294967296 : Nat) : Int) (((M / 4294967296 : Nat) : Int) * 4294967296) = (M : Int) := by
      have e : ((M / 4294967296 : Nat) : Int) * 4294967296 = ((M / 4294967296 * 4294967296 : Nat) : Int) := by simp
      rw [e, u64_or_nat _ _ (by omega) (by omega), Nat.or_comm, or_shift _ _ (by omega)]
      rw [show M / 4294967296 * 4294967296 + M % 4294967296 = M by omega]
    obtain ⟨y0, hy0⟩ : ∃ y, M % 4294967296 = y := ⟨_, rfl⟩
    obtain ⟨y1, hy1⟩ : ∃ y, M / 4294967296 = y := ⟨_, rfl⟩
    rw [hy0, hy1] at e9
    rw [hy0] at HX0
    rw [hy1] at HX1
    have hy0b : y0 < 4294967296 := by omega
    have hy1b : y1 < 4294967296 := by omega
    have HY := Lib.hid (And.intro hy0 hy1)
    clear hx0 hx1 hlen hy0 hy1 hB
    cases s with
    | true =>
      have hMp := hsp rfl
      clear hsp
      by_cases hf : M ≤ 9223372036854775808
      · have hV : intV Z = .tuple #[.int .i64 (-(M : Int)), .bool true] := by
          have e : Z = -(M : Int) := hze
          subst e; unfold intV; rw [intFit_true (by omega) (by omega), if_pos rfl]
        rw [hV]
        have g1 : IntKind.u64.wrap (-(M : Int)) = 18446744073709551616 - (M : Int) := by unfold IntKind.wrap; simp [IntKind.bits, IntKind.signed]; omega
        have g2 : IntKind.i64.wrap (18446744073709551616 - (M : Int)) = -(M : Int) := by unfold IntKind.wrap; simp [IntKind.bits, IntKind.signed]; omega
        clear hV hze
        go_enter Tryd.func20, Tryd.ntmps20
        go_wp2_with (first
          | (go_at_call 50; (with_reducible refine (r_mag_c _ b A n c l ?_ ?_).mono ?_); (exact wa.belw b1); (omega); rintro e w2 ⟨A1, n1, c1, rfl, h1, hb2⟩; have x2 := x1.below hb2 x1.lt; have b2 := b1.trans (hb2.mono b1.size); rw [HM.out] at h1; have e1 : n1 ≤ 2 := (by rw [h1.2.1]; exact HLN.out); have e2 : (n1 : Int) ≤ 2 := (by omega); obtain ⟨cx0, cx1⟩ := x2.c2)
          | (go_at_call 60; (with_reducible refine (r_word_0 _ A1 n1 c1 (digs M) h1 y0 HX0.out (by omega)).mono ?_); rintro e w' ⟨rfl, rfl⟩)
          | (go_at_call 60; (with_reducible refine (r_word_1 _ A1 n1 c1 (digs M) h1 y1 HX1.out (by omega)).mono ?_); rintro e w' ⟨rfl, rfl⟩)
          | (go_at_call 51; (with_reducible refine (rx_neg_e _ b A n c l true ?_ ?_ HS.out).mono ?_); (exact wa.belw b2); (omega); rintro e w3 ⟨rfl, hb3⟩; have x3 := x2.below hb3 x2.lt; replace b2 := b2.trans (hb3.mono b2.size); clear x2; have x2 := x3; clear x3; clear cx0 cx1; obtain ⟨cx0, cx1⟩ := x2.c2))
        refine bodyPost_ret (v := .tuple #[.int .i64 (-(M : Int)), .bool true]) (by simp [results, Tryd.results20, go_sem, *] <;> first | rfl | exact ⟨rfl, rfl⟩) rfl ?_
        exact ⟨rfl, b2⟩
      · have hV : intV Z = .tuple #[.int .i64 0, .bool false] := by
          have e : Z = -(M : Int) := hze
          subst e; unfold intV; rw [intFit_false (by omega), if_neg (by simp)]
        rw [hV]
        clear hV hze
        go_enter Tryd.func20, Tryd.ntmps20
        go_wp2_with (first
          | (go_at_call 50; (with_reducible refine (r_mag_c _ b A n c l ?_ ?_).mono ?_); (exact wa.belw b1); (omega); rintro e w2 ⟨A1, n1, c1, rfl, h1, hb2⟩; have x2 := x1.below hb2 x1.lt; have b2 := b1.trans (hb2.mono b1.size); rw [HM.out] at h1; have e1 : n1 ≤ 2 := (by rw [h1.2.1]; exact HLN.out); have e2 : (n1 : Int) ≤ 2 := (by omega); obtain ⟨cx0, cx1⟩ := x2.c2)
          | (go_at_call 60; (with_reducible refine (r_word_0 _ A1 n1 c1 (digs M) h1 y0 HX0.out (by omega)).mono ?_); rintro e w' ⟨rfl, rfl⟩)
          | (go_at_call 60; (with_reducible refine (r_word_1 _ A1 n1 c1 (digs M) h1 y1 HX1.out (by omega)).mono ?_); rintro e w' ⟨rfl, rfl⟩)
          | (go_at_call 51; (with_reducible refine (rx_neg_e _ b A n c l true ?_ ?_ HS.out).mono ?_); (exact wa.belw b2); (omega); rintro e w3 ⟨rfl, hb3⟩; have x3 := x2.below hb3 x2.lt; replace b2 := b2.trans (hb3.mono b2.size); clear x2; have x2 := x3; clear x3; clear cx0 cx1; obtain ⟨cx0, cx1⟩ := x2.c2))
        refine bodyPost_ret (v := .tuple #[.int .i64 0, .bool false]) (by simp [results, Tryd.results20, go_sem, *] <;> first | rfl | exact ⟨rfl, rfl⟩) rfl ?_
        exact ⟨rfl, b2⟩
    | false =>
      clear hsp
      by_cases hf : M < 9223372036854775808
      · have hV : intV Z = .tuple #[.int .i64 (M : Int), .bool true] := by
          have e : Z = (M : Int) := by rw [hze]; unfold sgn; simp
          subst e; unfold intV; rw [intFit_true (by omega) (by omega), if_pos rfl]
        rw [hV]
        have g2 : IntKind.i64.wrap (M : Int) = (M : Int) := by unfold IntKind.wrap; simp [IntKind.bits, IntKind.signed]; omega
        have k1 : ((9223372036854775808 : Int) ≤ (M : Int)) = False := by simp; omega
        have k2 : ((M : Int) < 9223372036854775808) = True := by simp; omega
        clear hV hze hf
        go_enter Tryd.func20, Tryd.ntmps20
        go_wp2_with (first
          | (go_at_call 50; (with_reducible refine (r_mag_c _ b A n c l ?_ ?_).mono ?_); (exact wa.belw b1); (omega); rintro e w2 ⟨A1, n1, c1, rfl, h1, hb2⟩; have x2 := x1.below hb2 x1.lt; have b2 := b1.trans (hb2.mono b1.size); rw [HM.out] at h1; have e1 : n1 ≤ 2 := (by rw [h1.2.1]; exact HLN.out); have e2 : (n1 : Int) ≤ 2 := (by omega); obtain ⟨cx0, cx1⟩ := x2.c2)
          | (go_at_call 60; (with_reducible refine (r_word_0 _ A1 n1 c1 (digs M) h1 y0 HX0.out (by omega)).mono ?_); rintro e w' ⟨rfl, rfl⟩)
          | (go_at_call 60; (with_reducible refine (r_word_1 _ A1 n1 c1 (digs M) h1 y1 HX1.out (by omega)).mono ?_); rintro e w' ⟨rfl, rfl⟩)
          | (go_at_call 51; (with_reducible refine (rx_neg_e _ b A n c l false ?_ ?_ HS.out).mono ?_); (exact wa.belw b2); (omega); rintro e w3 ⟨rfl, hb3⟩; have x3 := x2.below hb3 x2.lt; replace b2 := b2.trans (hb3.mono b2.size); clear x2; have x2 := x3; clear x3; clear cx0 cx1; obtain ⟨cx0, cx1⟩ := x2.c2))
        refine bodyPost_ret (v := .tuple #[.int .i64 (M : Int), .bool true]) (by simp [results, Tryd.results20, go_sem, *] <;> first | rfl | exact ⟨rfl, rfl⟩) rfl ?_
        exact ⟨rfl, b2⟩
      · have hV : intV Z = .tuple #[.int .i64 0, .bool false] := by
          have e : Z = (M : Int) := by rw [hze]; unfold sgn; simp
          subst e; unfold intV; rw [intFit_false (by omega), if_neg (by simp)]
        rw [hV]
        have k1 : ((9223372036854775808 : Int) ≤ (M : Int)) = True := by simp; omega
        have k2 : ((M : Int) < 9223372036854775808) = False := by simp; omega
        clear hV hze hf
        go_enter Tryd.func20, Tryd.ntmps20
        go_wp2_with (first
          | (go_at_call 50; (with_reducible refine (r_mag_c _ b A n c l ?_ ?_).mono ?_); (exact wa.belw b1); (omega); rintro e w2 ⟨A1, n1, c1, rfl, h1, hb2⟩; have x2 := x1.below hb2 x1.lt; have b2 := b1.trans (hb2.mono b1.size); rw [HM.out] at h1; have e1 : n1 ≤ 2 := (by rw [h1.2.1]; exact HLN.out); have e2 : (n1 : Int) ≤ 2 := (by omega); obtain ⟨cx0, cx1⟩ := x2.c2)
          | (go_at_call 60; (with_reducible refine (r_word_0 _ A1 n1 c1 (digs M) h1 y0 HX0.out (by omega)).mono ?_); rintro e w' ⟨rfl, rfl⟩)
          | (go_at_call 60; (with_reducible refine (r_word_1 _ A1 n1 c1 (digs M) h1 y1 HX1.out (by omega)).mono ?_); rintro e w' ⟨rfl, rfl⟩)
          | (go_at_call 51; (with_reducible refine (rx_neg_e _ b A n c l false ?_ ?_ HS.out).mono ?_); (exact wa.belw b2); (omega); rintro e w3 ⟨rfl, hb3⟩; have x3 := x2.below hb3 x2.lt; replace b2 := b2.trans (hb3.mono b2.size); clear x2; have x2 := x3; clear x3; clear cx0 cx1; obtain ⟨cx0, cx1⟩ := x2.c2))
        refine bodyPost_ret (v := .tuple #[.int .i64 0, .bool false]) (by simp [results, Tryd.results20, go_sem, *] <;> first | rfl | exact ⟨rfl, rfl⟩) rfl ?_
        exact ⟨rfl, b2⟩
  · have hV : intV Z = .tuple #[.int .i64 0, .bool false] := by
      unfold intV
      rw [intFit_false (by rw [hze]; unfold sgn; split <;> omega), if_neg (by simp)]
    rw [hV]
    have HLN := Lib.hid (show 2 < (digs M).length by
      rcases Nat.lt_or_ge 2 (digs M).length with h | h
      · exact h
      · exact absurd (lt_of_length_digs h) (by omega))
    clear hV hze hsp hB
    go_enter Tryd.func20, Tryd.ntmps20
    go_wp2_with (go_at_call 50; (with_reducible refine (r_mag_c _ b A n c l ?_ ?_).mono ?_); (exact wa.belw b1); (omega); rintro e w2 ⟨A1, n1, c1, rfl, h1, hb2⟩; rw [HM.out] at h1; have e1 : 2 < n1 := (by rw [h1.2.1]; exact HLN.out))
    refine bodyPost_ret (v := .tuple #[.int .i64 0, .bool false]) (by simp [results, Tryd.results20, go_sem, *] <;> first | rfl | exact ⟨rfl, rfl⟩) rfl ?_
    exact ⟨rfl, b1.trans (hb2.mono b1.size)⟩
theorem i_int (w : World) (b : Bool) (A : Option Addr) (n c : Nat) (z : Int) (k : Nat) (h : IZ w b A n c z k) (hk : k ≤ 1000000000) :
    Calls Tryd.prog 19 #[.agg #[.bool b, .slice A n c]] w (RetV w (.tuple #[.int .i64 (if intFit z then z else 0), .bool (intFit z)])) := by
  obtain ⟨l, h1, rfl, h3⟩ := h
  exact int_C w b A n c l h1 (by omega)
theorem r01_int (w : World) (b : Bool) (A : Option Addr) (n c : Nat) (z : Int) (k : Nat) (h : IZ w b A n c z k) (hk : k ≤ 1000000000) :
    Calls Tryd.prog 20 #[.agg #[.bool b, .slice A n c]] w (RetV w (.tuple #[.int .i64 (if intFit z then z else 0), .bool (intFit z)])) := by
  obtain ⟨l, h1, rfl, h3⟩ := h
  exact r_int_C w b A n c l h1 (by omega)
end Go.Proofs.YtkehcfclggmblaaDoor

/- Walks: IntegerValid. -/
namespace Go.Proofs.YtkehcfclggmblaaDoor
open Go Go.RowKit Bn
attribute [local go_sem ↓] Go.wp_at_zero Go.wp_at_succ
theorem i_int_v (w : World) (b : Bool) (A : Option Addr) (n c : Nat) (z : Int) (k : Nat) (h : IZ w b A n c z k) (u : Int) (hu : (if intFit z then z else 0) = u) (f : Bool) (hf : intFit z = f) (hk : k ≤ 1000000000) : Calls Tryd.prog 19 #[.agg #[.bool b, .slice A n c]] w (RetV w (.tuple #[.int .i64 u, .bool f])) := by
  subst hu hf; exact i_int w b A n c z k h hk
theorem r01_int_v (w : World) (b : Bool) (A : Option Addr) (n c : Nat) (z : Int) (k : Nat) (h : IZ w b A n c z k) (u : Int) (hu : (if intFit z then z else 0) = u) (f : Bool) (hf : intFit z = f) (hk : k ≤ 1000000000) : Calls Tryd.prog 20 #[.agg #[.bool b, .slice A n c]] w (RetV w (.tuple #[.int .i64 u, .bool f])) := by
  subst hu hf; exact r01_int w b A n c z k h hk
theorem i_valid_l (w : World) (b : Bool) (A : Option Addr) (n c : Nat) (l : List Nat) (v : Bool) (hv : WD.ok ⟨b, l⟩ = v) (h : Wd w A n c l) (hk : n ≤ 1000000000) : Calls Tryd.prog 21 #[.agg #[.bool b, .slice A n c]] w (RetV w (.bool v)) := by
  subst hv; exact valid_c w b A n c l h (by omega)
theorem r01_valid_l (w : World) (b : Bool) (A : Option Addr) (n c : Nat) (l : List Nat) (v : Bool) (hv : WD.ok ⟨b, l⟩ = v) (h : Wd w A n c l) (hk : n ≤ 1000000000) : Calls Tryd.prog 22 #[.agg #[.bool b, .slice A n c]] w (RetV w (.bool v)) := by
  subst hv; exact r_valid_c w b A n c l h (by omega)
theorem i_of2 (w : World) (i : Int) (h0 : -9223372036854775808 ≤ i) (h1 : i < 9223372036854775808) : Calls Tryd.prog 23 #[.int .i64 i] w (RetI w i 2) := i_of w i 2 h0 h1 (by omega)
theorem r01_of2 (w : World) (i : Int) (h0 : -9223372036854775808 ≤ i) (h1 : i < 9223372036854775808) : Calls Tryd.prog 24 #[.int .i64 i] w (RetI w i 2) := r01_of w i 2 h0 h1 (by omega)
theorem r01_sign_v (w : World) (b : Bool) (A : Option Addr) (n c : Nat) (z : Int) (k : Nat) (h : IZ w b A n c z k) (v : Int) (hv : z.sign = v) (hk : k ≤ 1000000000) : Calls Tryd.prog 26 #[.agg #[.bool b, .slice A n c]] w (RetV w (.int .i64 v)) := by
  subst hv; exact r01_sign w b A n c z k h hk
theorem i_bits_v (w : World) (b : Bool) (A : Option Addr) (n c : Nat) (z : Int) (k : Nat) (h : IZ w b A n c z k) (v : Nat) (hv : blen z.natAbs = v) (hk : k ≤ 1000000000) : Calls Tryd.prog 27 #[.agg #[.bool b, .slice A n c]] w (RetV w (.int .i64 (v : Nat))) := by
  subst hv; exact i_bits w b A n c z k h hk
theorem r01_bits_v (w : World) (b : Bool) (A : Option Addr) (n c : Nat) (z : Int) (k : Nat) (h : IZ w b A n c z k) (v : Nat) (hv : blen z.natAbs = v) (hk : k ≤ 1000000000) : Calls Tryd.prog 28 #[.agg #[.bool b, .slice A n c]] w (RetV w (.int .i64 (v : Nat))) := by
  subst hv; exact r01_bits w b A n c z k h hk
set_option maxRecDepth 100000 in
set_option maxHeartbeats 8000000 in
/-- linkworklaw01.IntegerValid -/
theorem l_IntegerValid (w : World) (b : Bool) (A : Option Addr) (n c : Nat) (l : List Nat) (HW : Wd w A n c l) (x : Int) (hx : (Lit.int .i64 x).wf = true) (htab : Tab w) :
    Calls Tryd.prog 4 #[.agg #[.bool b, .slice A n c], .int .i64 x] w (RetV w (.bool true)) := by
  obtain ⟨z, hz⟩ : ∃ z, WD.z ⟨b, l⟩ = z := ⟨_, rfl⟩
  obtain ⟨v, hv⟩ : ∃ v, WD.ok ⟨b, l⟩ = v := ⟨_, rfl⟩
  have H : IZ w b A n c z n := ⟨l, HW, hz, Nat.le_refl _⟩
  have hxx : -9223372036854775808 ≤ x ∧ x ≤ 9223372036854775807 := by simpa [Lit.wf, IntKind.min, IntKind.max, IntKind.signed, IntKind.bits] using hx
  have hx0 := hxx.1
  have hx1 : x < 9223372036854775808 := by omega
  have HV := Lib.hid hv
  clear hz hx hxx hv
  go_enter Tryd.func4, Tryd.ntmps4
  go_wp2_with fail
  (with_reducible refine (l_short _ (w.heap.size + 1) 1 (fun i : Nat => n) ?_ ?_).mono ?_); (exact ws1 (blkAt _ _ _ (by simp))); (decide); rintro e w1 ⟨r1, rfl, hr1, hb1⟩
  have q1 : Below w.heap.size w w1 := (((Below.refl _ _).alloc (Nat.le_refl _) _).alloc (by simp) _).trans (hb1.mono (by simp <;> omega))
  replace H := H.belw q1
  replace HW := HW.belw q1
  have x1_0 : Blk w1 (w.heap.size) 24 #[.bool b, .slice A n c] := ((blkAt _ _ _ (by simp)).alloc _).below hb1 (by simp <;> omega)
  have x1_1 : Blk w1 (w.heap.size + 1) 24 #[.bool b, .slice A n c] := (blkAt _ _ _ (by simp)).below hb1 (by simp)
  have bw1 : Below w.heap.size w w1 := (brefl w).trans (q1.mono (brefl w).size)
  have lw1 : w.heap.size + 2 ≤ w1.heap.size := by have := hb1.size; simp at this; omega
  clear hb1 q1
  cases r1
  · clear hr1
    go_wp2_with fail
    (with_reducible refine (l_awake _  ?_).mono ?_); (exact htab.belw bw1); rintro e w2 ⟨rfl, hb2⟩
    have q2 : Below w1.heap.size w1 w2 := hb2
    replace H := H.belw q2
    replace HW := HW.belw q2
    replace x1_0 := x1_0.below q2 x1_0.lt
    replace x1_1 := x1_1.below q2 x1_1.lt
    have bw2 : Below w.heap.size w w2 := bw1.trans (q2.mono bw1.size)
    have lw2 : w1.heap.size ≤ w2.heap.size := q2.size
    clear hb2 q2 bw1
    go_wp2_with fail
    go_ret
    exact retB rfl bw2
  · have hn30 : n ≤ 30 := hr1 rfl 0 (by decide)
    replace H := IZ.short H hn30
    clear hr1
    obtain ⟨u, hu⟩ : ∃ u, (if intFit z then z else 0) = u := ⟨_, rfl⟩
    obtain ⟨f, hf⟩ : ∃ f, intFit z = f := ⟨_, rfl⟩
    obtain ⟨s, hs⟩ : ∃ s, z.sign = s := ⟨_, rfl⟩
    obtain ⟨m, hm⟩ : ∃ m, blen z.natAbs = m := ⟨_, rfl⟩
    have HU := Lib.hid (And.intro hu hf)
    have HS := Lib.hid hs
    have HM := Lib.hid hm
    clear hu hf hs hm
    go_wp2_with fail
    (with_reducible refine (l_awake _  ?_).mono ?_); (exact htab.belw bw1); rintro e w2 ⟨rfl, hb2⟩
    have q2 : Below w1.heap.size w1 w2 := hb2
    replace H := H.belw q2
    replace HW := HW.belw q2
    replace x1_0 := x1_0.below q2 x1_0.lt
    replace x1_1 := x1_1.below q2 x1_1.lt
    have bw2 : Below w.heap.size w w2 := bw1.trans (q2.mono bw1.size)
    have lw2 : w1.heap.size ≤ w2.heap.size := q2.size
    clear hb2 q2 bw1
    obtain ⟨cx1_0_0, cx1_0_1⟩ := x1_0.c2
    obtain ⟨lx1_0_0, lx1_0_1, lx1_0_2, lx1_0_3⟩ := lts0 x1_0.lt
    go_wp2_with fail
    (with_reducible refine (i_int_v _ b A n c (z) (30) ?_ u HU.out.1 f HU.out.2 ?_).mono ?_); (exact H); (first | omega | decide | assumption); rintro e w3 ⟨rfl, hb3⟩
    clear cx1_0_0 cx1_0_1 lx1_0_0 lx1_0_1 lx1_0_2 lx1_0_3
    have q3 : Below w2.heap.size w2 w3 := hb3
    replace H := H.belw q3
    replace HW := HW.belw q3
    replace x1_0 := x1_0.below q3 x1_0.lt
    replace x1_1 := x1_1.below q3 x1_1.lt
    have bw3 : Below w.heap.size w w3 := bw2.trans (q3.mono bw2.size)
    have lw3 : w2.heap.size ≤ w3.heap.size := q3.size
    clear hb3 q3 bw2
    obtain ⟨cx1_0_0, cx1_0_1⟩ := x1_0.c2
    obtain ⟨lx1_0_0, lx1_0_1, lx1_0_2, lx1_0_3⟩ := lts0 x1_0.lt
    go_wp2_with fail
    (with_reducible refine (r01_int_v _ b A n c (z) (30) ?_ u HU.out.1 f HU.out.2 ?_).mono ?_); (exact H); (first | omega | decide | assumption); rintro e w4 ⟨rfl, hb4⟩
    clear cx1_0_0 cx1_0_1 lx1_0_0 lx1_0_1 lx1_0_2 lx1_0_3
    have q4 : Below w3.heap.size w3 w4 := hb4
    replace H := H.belw q4
    replace HW := HW.belw q4
    replace x1_0 := x1_0.below q4 x1_0.lt
    replace x1_1 := x1_1.below q4 x1_1.lt
    have bw4 : Below w.heap.size w w4 := bw3.trans (q4.mono bw3.size)
    have lw4 : w3.heap.size ≤ w4.heap.size := q4.size
    clear hb4 q4 bw3
    obtain ⟨cx1_0_0, cx1_0_1⟩ := x1_0.c2
    obtain ⟨lx1_0_0, lx1_0_1, lx1_0_2, lx1_0_3⟩ := lts0 x1_0.lt
    obtain ⟨lx1_1_0, lx1_1_1, lx1_1_2, lx1_1_3⟩ := lts1 x1_1.lt
    go_wp2_with fail
    go_region_held3 (fun w' => Sees w4.heap.size w4 w') (first | with_reducible exact Sees.of (Nat.le_refl _) (by assumption) | with_reducible exact Sees.of (Nat.le_refl _) (brefl _).drew | exact Sees.of (Nat.le_refl _) (below_drewN (brefl _) 1) | exact Sees.of (Nat.le_refl _) (below_drewN (by assumption) _))
      (first
        | (go_at_call 21; (with_reducible refine (i_valid_l _ b A n c l v HV.out ?_ ?_).mono ?_); (exact HW); (first | omega | decide | assumption); rintro e w5 ⟨rfl, hb5⟩; replace hb5 := bnext (below_drewN (brefl _) 1) hb5; have q5 : Below w4.heap.size w4 w5 := bnext (brefl w4) hb5; replace H := H.belw hb5; replace HW := HW.belw hb5)
        | (go_at_call 22; (with_reducible refine (r01_valid_l _ b A n c l v HV.out ?_ ?_).mono ?_); (exact HW); (first | omega | decide | assumption); rintro e w6 ⟨rfl, hb6⟩; have q6 : Below w4.heap.size w4 w6 := bnext q5 hb6; replace H := H.belw hb6; replace HW := HW.belw hb6)
        | (go_at_call 23; (with_reducible refine (i_of2 _ (x) ?_ ?_).mono ?_); (first | omega | decide | assumption); (first | omega | decide | assumption); rintro e w7 ⟨b7, A7, n7, c7, rfl, h7, hb7⟩; have q7 : Below w4.heap.size w4 w7 := bnext q6 hb7; replace H := H.belw hb7; replace HW := HW.belw hb7)
        | (go_at_call 24; (with_reducible refine (r01_of2 _ (x) ?_ ?_).mono ?_); (first | omega | decide | assumption); (first | omega | decide | assumption); rintro e w8 ⟨b8, A8, n8, c8, rfl, h8, hb8⟩; have q8 : Below w4.heap.size w4 w8 := bnext q7 hb8; replace H := H.belw hb8; replace HW := HW.belw hb8; replace h7 := h7.belw hb8)
        | (go_at_call 16; (with_reducible refine (s_same _ b7 A7 n7 c7 (x) (2) ?_ b8 A8 n8 c8 (x) (2) ?_  ?_ ?_).mono ?_); (exact h7); (exact h8); (exact rfl); (first | omega | decide | assumption); rintro e w9 ⟨rfl, hb9⟩; have q9 : Below w4.heap.size w4 w9 := bnext q8 hb9; replace H := H.belw hb9; replace HW := HW.belw hb9; replace h7 := h7.belw hb9; replace h8 := h8.belw hb9)
        | (go_at_call 25; (with_reducible refine (i_sign_v _ b A n c (z) (30) ?_ s HS.out ?_).mono ?_); (exact H); (first | omega | decide | assumption); rintro e w10 ⟨rfl, hb10⟩; have q10 : Below w4.heap.size w4 w10 := bnext q9 hb10; replace H := H.belw hb10; replace HW := HW.belw hb10; replace h7 := h7.belw hb10; replace h8 := h8.belw hb10)
        | (go_at_call 26; (with_reducible refine (r01_sign_v _ b A n c (z) (30) ?_ s HS.out ?_).mono ?_); (exact H); (first | omega | decide | assumption); rintro e w11 ⟨rfl, hb11⟩; have q11 : Below w4.heap.size w4 w11 := bnext q10 hb11; replace H := H.belw hb11; replace HW := HW.belw hb11; replace h7 := h7.belw hb11; replace h8 := h8.belw hb11)
        | (go_at_call 27; (with_reducible refine (i_bits_v _ b A n c (z) (30) ?_ m HM.out ?_).mono ?_); (exact H); (first | omega | decide | assumption); rintro e w12 ⟨rfl, hb12⟩; have q12 : Below w4.heap.size w4 w12 := bnext q11 hb12; replace H := H.belw hb12; replace HW := HW.belw hb12; replace h7 := h7.belw hb12; replace h8 := h8.belw hb12)
        | (go_at_call 28; (with_reducible refine (r01_bits_v _ b A n c (z) (30) ?_ m HM.out ?_).mono ?_); (exact H); (first | omega | decide | assumption); rintro e w13 ⟨rfl, hb13⟩; have q13 : Below w4.heap.size w4 w13 := bnext q12 hb13; replace H := H.belw hb13; replace HW := HW.belw hb13; replace h7 := h7.belw hb13; replace h8 := h8.belw hb13))
    have bw13 : Below w.heap.size w w13 := bw4.trans (q13.mono bw4.size)
    clear cx1_0_0 cx1_0_1 lx1_0_0 lx1_0_1 lx1_0_2 lx1_0_3 lx1_1_0 lx1_1_1 lx1_1_2 lx1_1_3
    replace x1_0 := x1_0.below q13 x1_0.lt
    replace x1_1 := x1_1.below q13 x1_1.lt
    have lw13 : w4.heap.size ≤ w13.heap.size := q13.size
    go_wp2_with fail
    go_ret
    exact retB rfl bw13
end Go.Proofs.YtkehcfclggmblaaDoor

namespace Go.Proofs.YtkehcfclggmblaaDoor
open Go Go.RowKit Bn Go.ChangeShapes Go.WideShapes Go.ChangeAt
set_option maxRecDepth 100000 in
theorem valid_contract (H : Type) (enc : TypeId × Value → H) (W : World) (base : Nat) (args : Array Value) (ds gs : List (DataW H)) (before : List MemPlace)
    (hval0 : ∀ (j : Nat) t v, Tryd.f4.params[j]? = some t → args[j]? = some v → Value.okWide Tryd.prog W .any base t v)
    (hW : DataW.Whole enc Tryd.prog Tryd.f4.params.toList Rows.integerValidSpec.vars false W args.toList ds gs before) (hL : laidMetH Tryd.prog Rows.integerValidRow.laid W) :
    Calls Tryd.prog 4 args W fun e W' => ∃ v, e = .returned v ∧ Rows.integerValidSpec.post enc Tryd.prog Tryd.f4 false true false false W args v W' := by
  have hval : ∀ (j : Nat) t v, Tryd.f4.params[j]? = some t → args[j]? = some v → Value.okWide Tryd.prog W .any base t v := hval0
  have htab : Tab W := tab_of_laid hL
  have hW' := hW
  obtain ⟨p, q, hA0, hV, rfl, hfz, hnd⟩ := hW
  have hA : DataW.TrodAll enc Tryd.prog W 0 (fun _ => true) true Tryd.f4.params.toList args.toList ds p := hA0
  rw [Tryd.params4] at hA hval
  obtain ⟨v0, v1, d0, d1, p0, p1, rfl, rfl, rfl, h0, h1⟩ := trodAll_two hA
  obtain ⟨rfl, rfl⟩ := trodVars_none hV
  obtain ⟨b, A, n, c, z, k, rfl, l, HW, _, _⟩ := whole_open (hval 0 _ v0 rfl rfl) h0
  obtain ⟨x, rfl, rfl, rfl, hx⟩ := open_int Tryd.underlying3 (hval 1 _ v1 rfl rfl) h1
  refine (l_IntegerValid W b A n c l HW x hx htab).mono fun e W' ⟨he, hb⟩ => ?_
  subst he
  exact ⟨_, rfl, law_post laid_out Tryd.underlying4 hW' rfl rfl (by kernel_rfl) rfl rfl rfl hb⟩
set_option maxRecDepth 100000 in
theorem valid_lifted (os : Os) (started : os.Started) (H : Type) (enc : TypeId × Value → H) (F : Stop.Interp) :
    ReturnsInHanded {} Tryd.checked os 4 .any ((OpenSpec.ofChange Rows.integerValidSpec).preRow enc Tryd.prog Tryd.f4 Rows.integerValidRow.domain false Rows.integerValidRow.laid) (((OpenSpec.ofChange Rows.integerValidSpec).at F).post enc Tryd.prog Tryd.f4 false true false false) := by
  have hx : DataW.whole enc Tryd.prog ((laidWorld os).forCall (fun _ _ => 0) ⟨#[], #[.agg #[.bool false, .slice none 0 0], .int .i64 0], []⟩).memory Tryd.f4.params.toList Rows.integerValidSpec.vars false (#[.agg #[.bool false, .slice none 0 0], .int .i64 0] : Array Value).toList 8 = some ([.agg [.lit (.bool false), .nil], .lit (.int .i64 0)], [], []) := by kernel_rfl
  have hl : laidMet Tryd.prog Rows.integerValidRow.laid ((laidWorld os).forCall (fun _ _ => 0) ⟨#[], #[.agg #[.bool false, .slice none 0 0], .int .i64 0], []⟩).memory := laidMet_of_run' 8 (by kernel_rfl) (by kernel_rfl)
  refine returnsInHanded_of_row (C := Tryd.checked) (s := OpenSpec.ofChange Rows.integerValidSpec) own_knob started (by kernel_rfl) Tryd.func4
    (witness_row_at (enc := enc) (C := Tryd.checked) false (laidWorld os) #[.agg #[.bool false, .slice none 0 0], .int .i64 0] rfl (by kernel_rfl) (by kernel_rfl) (by kernel_rfl)
      (OpenSpec.preRow_of_cond 8 hx (by kernel_rfl) (fun k hk => by cases hk) (by kernel_rfl) hl)) ?_
  intro W base args ds gs before hval hW _ _ _ hL _ _
  exact valid_contract H enc W base args ds gs before hval hW hL
theorem valid_said : Rows.IntegerValidSaid :=
  OpenClaim.holds_of_cond 4 Tryd.f4 rfl rfl rfl rfl rfl rfl rfl ⟨rfl, rfl, rfl, rfl, rfl⟩ rfl rfl rfl rfl rfl (by kernel_rfl) Tryd.func4 (by kernel_rfl)
    (of_decide_eq_true (by kernel_rfl)) (by unfold Func.isWrapper; first | (rw [if_pos (by decide +kernel)]; kernel_rfl) | (rw [if_neg (by decide +kernel)]; exact ⟨rfl, rfl⟩))
    (fun os started H enc _ F => by rw [OpenClaim.pre_eq_preRow]; exact valid_lifted os started H enc F)
theorem valid_plain (f : FuncId) (fn : Func) (hf : Tryd.pinned.checked.prog.funcNamed "linkwork/linkworklaw01.IntegerValid" = some f) (hfn : Tryd.pinned.checked.prog.funcs[f]? = some fn) :
    true = Tryd.pinned.checked.prog.looks [] ∧ ∀ (j : Nat) t, fn.params[j]? = some t → Tryd.pinned.checked.prog.wantsStandIn t = false := by
  obtain rfl : f = 4 := Option.some.inj ((show Tryd.prog.funcNamed "linkwork/linkworklaw01.IntegerValid" = some 4 by kernel_rfl).symm.trans hf) |>.symm
  obtain rfl : fn = Tryd.f4 := (Option.some.inj (Tryd.func4.symm.trans hfn)).symm
  refine ⟨by kernel_rfl, fun j t ht => ?_⟩
  rw [Tryd.params4] at ht
  have hm : t ∈ [24, 3] := by
    have := Array.mem_of_getElem? ht
    simp at this ⊢
    first
      | exact this
      | exact .inl this
  have hall : ([24, 3].all fun u => !Tryd.prog.wantsStandIn u) = true := by kernel_rfl
  exact (show Tryd.prog.wantsStandIn t = false by simpa using List.all_eq_true.1 hall t hm)
theorem valid_holds : Rows.IntegerValidCardSaid :=
  Claim7.holds_tied_plain_at .later [] _ _ _ _ valid_said (fun _ h => by cases h) (by kernel_rfl) (fun _ h => by cases h) integerValid_row_tie rfl ⟨rfl, rfl⟩ (by kernel_rfl) rfl valid_plain (by kernel_rfl)
end Go.Proofs.YtkehcfclggmblaaDoor
