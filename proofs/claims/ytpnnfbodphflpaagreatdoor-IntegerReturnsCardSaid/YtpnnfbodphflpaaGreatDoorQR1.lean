/- IntegerReturns: the text of an integer is read back as the same integer, and an int comes back as it was; for every input the law returns true. The listed library variables are tied to the program text. -/
import Derived.Deep.RegionHeld3
import Derived.Deep.DrawnRows
import Derived.Test.YtpnnfbodphflpaaGreatDoorA3
set_option linter.unusedVariables false
/- Walks: Int. -/
namespace Go.Proofs.YtpnnfbodphflpaaGreatDoor
open Go Go.RowKit Bn
/-- An integer as an int, if it fits. -/
def intFit (z : Int) : Bool := decide (-9223372036854775808 ≤ z ∧ z ≤ 9223372036854775807)
def intV (z : Int) : Value := .tuple #[.int .i64 (if intFit z then z else 0), .bool (intFit z)]
theorem intFit_true {z : Int} (h0 : -9223372036854775808 ≤ z) (h1 : z ≤ 9223372036854775807) : intFit z = true := by unfold intFit; simp; exact ⟨h0, h1⟩
theorem intFit_false {z : Int} (h : z < -9223372036854775808 ∨ 9223372036854775807 < z) : intFit z = false := by unfold intFit; simp; omega
theorem s_pos {b : Bool} {l : List Nat} {M : Nat} (hM : WD.m ⟨b, l⟩ = digs M) (hs : WD.s ⟨b, l⟩ = true) : 0 < M := by
  rcases Nat.eq_zero_or_pos M with e | e
  · exfalso
    rw [e, digs_zero] at hM
    unfold WD.s at hs
    unfold WD.m at hM
    cases ho : WD.ok ⟨b, l⟩
    · rw [ho] at hs; exact absurd hs (by simp)
    · rw [ho] at hs hM
      simp only [if_true] at hM
      simp only [Bool.true_and] at hs
      subst hs
      subst hM
      exact absurd ho (by decide)
  · exact e
theorem rx_neg_e (w : World) (b : Bool) (A : Option Addr) (n c : Nat) (l : List Nat) (s : Bool) (wa : Wd w A n c l) (hn : n ≤ 1099511627000) (hs : WD.s ⟨b, l⟩ = s) :
    Calls Tryz.prog 74 #[.agg #[.bool b, .slice A n c]] w (RetV w (.bool s)) := by subst hs; exact r_neg_c w b A n c l wa (by omega)
theorem word_0 (w : World) (A : Option Addr) (n c : Nat) (l : List Nat) (h : Wd w A n c l) (y : Nat) (hy : wd l 0 = y) (hn : n ≤ 4398046511104) : Calls Tryz.prog 75 #[.slice A n c, .int .i64 0] w (fun e w' => e = .returned (.int .u64 (y : Nat)) ∧ w = w') := word_x w A n c l h 0 y hy hn
theorem word_1 (w : World) (A : Option Addr) (n c : Nat) (l : List Nat) (h : Wd w A n c l) (y : Nat) (hy : wd l 1 = y) (hn : n ≤ 4398046511104) : Calls Tryz.prog 75 #[.slice A n c, .int .i64 1] w (fun e w' => e = .returned (.int .u64 (y : Nat)) ∧ w = w') := word_x w A n c l h 1 y hy hn
theorem r_word_0 (w : World) (A : Option Addr) (n c : Nat) (l : List Nat) (h : Wd w A n c l) (y : Nat) (hy : wd l 0 = y) (hn : n ≤ 4398046511104) : Calls Tryz.prog 115 #[.slice A n c, .int .i64 0] w (fun e w' => e = .returned (.int .u64 (y : Nat)) ∧ w = w') := r_word_x w A n c l h 0 y hy hn
theorem r_word_1 (w : World) (A : Option Addr) (n c : Nat) (l : List Nat) (h : Wd w A n c l) (y : Nat) (hy : wd l 1 = y) (hn : n ≤ 4398046511104) : Calls Tryz.prog 115 #[.slice A n c, .int .i64 1] w (fun e w' => e = .returned (.int .u64 (y : Nat)) ∧ w = w') := r_word_x w A n c l h 1 y hy hn
set_option maxRecDepth 100000 in
set_option maxHeartbeats 2000000 in
/-- integer.Int -/
theorem int_C (w : World) (b : Bool) (A : Option Addr) (n c : Nat) (l : List Nat) (wa : Wd w A n c l) (hn : n ≤ 1099511627000) :
    Calls Tryz.prog 28 #[.agg #[.bool b, .slice A n c]] w (RetV w (intV (WD.z ⟨b, l⟩))) := by
  have HL := Lib.hid wa.2.1
  have hcm : Canon (WD.m ⟨b, l⟩) := WD.canon_m wa.1
  obtain ⟨M, hM⟩ : ∃ M, WD.m ⟨b, l⟩ = digs M := ⟨_, (digs_val hcm).symm⟩
  have hze := WD.z_eq ⟨b, l⟩
  rw [hM, val_digs] at hze
  have b1 : Below w.heap.size w (w.alloc (.cells #[.bool b, .slice A n c] 48)) := (Below.refl _ _).alloc (Nat.le_refl _) _
  have x1 : Blk (w.alloc (.cells #[.bool b, .slice A n c] 48)) w.heap.size 48 #[.bool b, .slice A n c] := blkAt _ _ _ rfl
  obtain ⟨Z, hZ⟩ : ∃ Z, WD.z ⟨b, l⟩ = Z := ⟨_, rfl⟩
  rw [hZ] at hze ⊢
  have HM := Lib.hid hM
  obtain ⟨s, hs⟩ : ∃ s, WD.s ⟨b, l⟩ = s := ⟨_, rfl⟩
  have hsp : s = true → 0 < M := fun e => s_pos hM (hs.trans e)
  have HS := Lib.hid hs
  rw [hs] at hze
  clear hM hs hcm hZ
  have hB : (4294967296 : Nat) ^ 2 = 18446744073709551616 := by decide
  by_cases hbig : M < 18446744073709551616
  · have hx0 : wd (digs M) 0 = M % 4294967296 := by rw [wd_val (wds_digs _), val_digs]; simp
    have hx1 : wd (digs M) 1 = M / 4294967296 := by rw [wd_val (wds_digs _), val_digs, Nat.pow_one]; omega
    have HX0 := Lib.hid hx0
    have HX1 := Lib.hid hx1
    have hlen : (digs M).length ≤ 2 := length_digs_le (by omega)
    have HLN := Lib.hid hlen
    have e9 : bits .or .u64 ((M % 4294967296 : Nat) : Int) (((M / 4294967296 : Nat) : Int) * 4294967296) = (M : Int) := by
      have e : ((M / 4294967296 : Nat) : Int) * 4294967296 = ((M / 4294967296 * 4294967296 : Nat) : Int) := by simp
      rw [e, u64_or_nat _ _ (by omega) (by omega), Nat.or_comm, or_shift _ _ (by omega)]
      rw [show M / 4294967296 * 4294967296 + M % 4294967296 = M by omega]
    obtain ⟨y0, hy0⟩ : ∃ y, M % 4294967296 = y := ⟨_, rfl⟩
    obtain ⟨y1, hy1⟩ : ∃ y, M / 4294967296 = y := ⟨_, rfl⟩
    rw [hy0, hy1] at e9
    rw [hy0] at HX0
    rw [hy1] at HX1
    have hy0b : y0 < 4294967296 := by omega
    have hy1b : y1 < 4294967296 := by omega
    have HY := Lib.hid (And.intro hy0 hy1)
    clear hx0 hx1 hlen hy0 hy1 hB
    cases s with
    | true =>
      have hMp := hsp rfl
      clear hsp
      by_cases hf : M ≤ 9223372036854775808
      · have hV : intV Z = .tuple #[.int .i64 (-(M : Int)), .bool true] := by
          have e : Z = -(M : Int) := hze
          subst e; unfold intV; rw [intFit_true (by omega) (by omega), if_pos rfl]
        rw [hV]
        have g1 : IntKind.u64.wrap (-(M : Int)) = 18446744073709551616 - (M : Int) := by unfold IntKind.wrap; simp [IntKind.bits, IntKind.signed]; omega
        have g2 : IntKind.i64.wrap (18446744073709551616 - (M : Int)) = -(M : Int) := by unfold IntKind.wrap; simp [IntKind.bits, IntKind.signed]; omega
        clear hV hze
        go_enter Tryz.func28, Tryz.ntmps28
        go_wp2_with (first
          | (go_at_call 66; (with_reducible refine (mag_c _ b A n c l ?_ ?_).mono ?_); (exact wa.belw b1); (omega); rintro e w2 ⟨A1, n1, c1, rfl, h1, hb2⟩; have x2 := x1.below hb2 x1.lt; have b2 := b1.trans (hb2.mono b1.size); rw [HM.out] at h1; have e1 : n1 ≤ 2 := (by rw [h1.2.1]; exact HLN.out); have e2 : (n1 : Int) ≤ 2 := (by omega); obtain ⟨cx0, cx1⟩ := x2.c2)
          | (go_at_call 75; (with_reducible refine (word_0 _ A1 n1 c1 (digs M) h1 y0 HX0.out (by omega)).mono ?_); rintro e w' ⟨rfl, rfl⟩)
          | (go_at_call 75; (with_reducible refine (word_1 _ A1 n1 c1 (digs M) h1 y1 HX1.out (by omega)).mono ?_); rintro e w' ⟨rfl, rfl⟩)
          | (go_at_call 71; (with_reducible refine (neg_e _ b A n c l true ?_ ?_ HS.out).mono ?_); (exact wa.belw b2); (omega); rintro e w3 ⟨rfl, hb3⟩; have x3 := x2.below hb3 x2.lt; replace b2 := b2.trans (hb3.mono b2.size); clear x2; have x2 := x3; clear x3; clear cx0 cx1; obtain ⟨cx0, cx1⟩ := x2.c2))
        refine bodyPost_ret (v := .tuple #[.int .i64 (-(M : Int)), .bool true]) (by simp [results, Tryz.results28, go_sem, *] <;> first | rfl | exact ⟨rfl, rfl⟩) rfl ?_
        exact ⟨rfl, b2⟩
      · have hV : intV Z = .tuple #[.int .i64 0, .bool false] := by
          have e : Z = -(M : Int) := hze
          subst e; unfold intV; rw [intFit_false (by omega), if_neg (by simp)]
        rw [hV]
        clear hV hze
        go_enter Tryz.func28, Tryz.ntmps28
        go_wp2_with (first
          | (go_at_call 66; (with_reducible refine (mag_c _ b A n c l ?_ ?_).mono ?_); (exact wa.belw b1); (omega); rintro e w2 ⟨A1, n1, c1, rfl, h1, hb2⟩; have x2 := x1.below hb2 x1.lt; have b2 := b1.trans (hb2.mono b1.size); rw [HM.out] at h1; have e1 : n1 ≤ 2 := (by rw [h1.2.1]; exact HLN.out); have e2 : (n1 : Int) ≤ 2 := (by omega); obtain ⟨cx0, cx1⟩ := x2.c2)
          | (go_at_call 75; (with_reducible refine (word_0 _ A1 n1 c1 (digs M) h1 y0 HX0.out (by omega)).mono ?_); rintro e w' ⟨rfl, rfl⟩)
          | (go_at_call 75; (with_reducible refine (word_1 _ A1 n1 c1 (digs M) h1 y1 HX1.out (by omega)).mono ?_); rintro e w' ⟨rfl, rfl⟩)
          | (go_at_call 71; (with_reducible refine (neg_e _ b A n c l true ?_ ?_ HS.out).mono ?_); (exact wa.belw b2); (omega); rintro e w3 ⟨rfl, hb3⟩; have x3 := x2.below hb3 x2.lt; replace b2 := b2.trans (hb3.mono b2.size); clear x2; have x2 := x3; clear x3; clear cx0 cx1; obtain ⟨cx0, cx1⟩ := x2.c2))
        refine bodyPost_ret (v := .tuple #[.int .i64 0, .bool false]) (by simp [results, Tryz.results28, go_sem, *] <;> first | rfl | exact ⟨rfl, rfl⟩) rfl ?_
        exact ⟨rfl, b2⟩
    | false =>
      clear hsp
      by_cases hf : M < 9223372036854775808
      · have hV : intV Z = .tuple #[.int .i64 (M : Int), .bool true] := by
          have e : Z = (M : Int) := by rw [hze]; unfold sgn; simp
          subst e; unfold intV; rw [intFit_true (by omega) (by omega), if_pos rfl]
        rw [hV]
        have g2 : IntKind.i64.wrap (M : Int) = (M : Int) := by unfold IntKind.wrap; simp [IntKind.bits, IntKind.signed]; omega
        have k1 : ((9223372036854775808 : Int) ≤ (M : Int)) = False := by simp; omega
        have k2 : ((M : Int) < 9223372036854775808) = True := by simp; omega
        clear hV hze hf
        go_enter Tryz.func28, Tryz.ntmps28
        go_wp2_with (first
          | (go_at_call 66; (with_reducible refine (mag_c _ b A n c l ?_ ?_).mono ?_); (exact wa.belw b1); (omega); rintro e w2 ⟨A1, n1, c1, rfl, h1, hb2⟩; have x2 := x1.below hb2 x1.lt; have b2 := b1.trans (hb2.mono b1.size); rw [HM.out] at h1; have e1 : n1 ≤ 2 := (by rw [h1.2.1]; exact HLN.out); have e2 : (n1 : Int) ≤ 2 := (by omega); obtain ⟨cx0, cx1⟩ := x2.c2)
          | (go_at_call 75; (with_reducible refine (word_0 _ A1 n1 c1 (digs M) h1 y0 HX0.out (by omega)).mono ?_); rintro e w' ⟨rfl, rfl⟩)
          | (go_at_call 75; (with_reducible refine (word_1 _ A1 n1 c1 (digs M) h1 y1 HX1.out (by omega)).mono ?_); rintro e w' ⟨rfl, rfl⟩)
          | (go_at_call 71; (with_reducible refine (neg_e _ b A n c l false ?_ ?_ HS.out).mono ?_); (exact wa.belw b2); (omega); rintro e w3 ⟨rfl, hb3⟩; have x3 := x2.below hb3 x2.lt; replace b2 := b2.trans (hb3.mono b2.size); clear x2; have x2 := x3; clear x3; clear cx0 cx1; obtain ⟨cx0, cx1⟩ := x2.c2))
        refine bodyPost_ret (v := .tuple #[.int .i64 (M : Int), .bool true]) (by simp [results, Tryz.results28, go_sem, *] <;> first | rfl | exact ⟨rfl, rfl⟩) rfl ?_
        exact ⟨rfl, b2⟩
      · have hV : intV Z = .tuple #[.int .i64 0, .bool false] := by
          have e : Z = (M : Int) := by rw [hze]; unfold sgn; simp
          subst e; unfold intV; rw [intFit_false (by omega), if_neg (by simp)]
        rw [hV]
        have k1 : ((9223372036854775808 : Int) ≤ (M : Int)) = True := by simp; omega
        have k2 : ((M : Int) < 9223372036854775808) = False := by simp; omega
        clear hV hze hf
        go_enter Tryz.func28, Tryz.ntmps28
        go_wp2_with (first
          | (go_at_call 66; (with_reducible refine (mag_c _ b A n c l ?_ ?_).mono ?_); (exact wa.belw b1); (omega); rintro e w2 ⟨A1, n1, c1, rfl, h1, hb2⟩; have x2 := x1.below hb2 x1.lt; have b2 := b1.trans (hb2.mono b1.size); rw [HM.out] at h1; have e1 : n1 ≤ 2 := (by rw [h1.2.1]; exact HLN.out); have e2 : (n1 : Int) ≤ 2 := (by omega); obtain ⟨cx0, cx1⟩ := x2.c2)
          | (go_at_call 75; (with_reducible refine (word_0 _ A1 n1 c1 (digs M) h1 y0 HX0.out (by omega)).mono ?_); rintro e w' ⟨rfl, rfl⟩)
          | (go_at_call 75; (with_reducible refine (word_1 _ A1 n1 c1 (digs M) h1 y1 HX1.out (by omega)).mono ?_); rintro e w' ⟨rfl, rfl⟩)
          | (go_at_call 71; (with_reducible refine (neg_e _ b A n c l false ?_ ?_ HS.out).mono ?_); (exact wa.belw b2); (omega); rintro e w3 ⟨rfl, hb3⟩; have x3 := x2.below hb3 x2.lt; replace b2 := b2.trans (hb3.mono b2.size); clear x2; have x2 := x3; clear x3; clear cx0 cx1; obtain ⟨cx0, cx1⟩ := x2.c2))
        refine bodyPost_ret (v := .tuple #[.int .i64 0, .bool false]) (by simp [results, Tryz.results28, go_sem, *] <;> first | rfl | exact ⟨rfl, rfl⟩) rfl ?_
        exact ⟨rfl, b2⟩
  · have hV : intV Z = .tuple #[.int .i64 0, .bool false] := by
      unfold intV
      rw [intFit_false (by rw [hze]; unfold sgn; split <;> omega), if_neg (by simp)]
    rw [hV]
    have HLN := Lib.hid (show 2 < (digs M).length by
      rcases Nat.lt_or_ge 2 (digs M).length with h | h
      · exact h
      · exact absurd (lt_of_length_digs h) (by omega))
    clear hV hze hsp hB
    go_enter Tryz.func28, Tryz.ntmps28
    go_wp2_with (go_at_call 66; (with_reducible refine (mag_c _ b A n c l ?_ ?_).mono ?_); (exact wa.belw b1); (omega); rintro e w2 ⟨A1, n1, c1, rfl, h1, hb2⟩; rw [HM.out] at h1; have e1 : 2 < n1 := (by rw [h1.2.1]; exact HLN.out))
    refine bodyPost_ret (v := .tuple #[.int .i64 0, .bool false]) (by simp [results, Tryz.results28, go_sem, *] <;> first | rfl | exact ⟨rfl, rfl⟩) rfl ?_
    exact ⟨rfl, b1.trans (hb2.mono b1.size)⟩
theorem i_int (w : World) (b : Bool) (A : Option Addr) (n c : Nat) (z : Int) (k : Nat) (h : IZ w b A n c z k) (hk : k ≤ 1000000000) :
    Calls Tryz.prog 28 #[.agg #[.bool b, .slice A n c]] w (RetV w (.tuple #[.int .i64 (if intFit z then z else 0), .bool (intFit z)])) := by
  obtain ⟨l, h1, rfl, h3⟩ := h
  exact int_C w b A n c l h1 (by omega)
end Go.Proofs.YtpnnfbodphflpaaGreatDoor

/- Walks: IntegerReturns. -/
namespace Go.Proofs.YtpnnfbodphflpaaGreatDoor
open Go Go.RowKit Bn
attribute [local go_sem ↓] Go.wp_at_zero Go.wp_at_succ
theorem i_int_w (w : World) (b : Bool) (A : Option Addr) (n c : Nat) (z : Int) (k : Nat) (h : IZ w b A n c z k) (u : Int) (hu : z = u) (hf : intFit u = true) (hk : k ≤ 1000000000) : Calls Tryz.prog 28 #[.agg #[.bool b, .slice A n c]] w (RetV w (.tuple #[.int .i64 u, .bool true])) := by
  subst hu
  have := i_int w b A n c z k h hk
  rw [hf, if_pos rfl] at this
  exact this
theorem i_of_w (w : World) (i : Int) (h0 : -9223372036854775808 ≤ i) (h1 : i < 9223372036854775808) : Calls Tryz.prog 29 #[.int .i64 i] w (RetI w i 2) := i_of w i 2 h0 h1 (by omega)
theorem i_parse_z (w : World) (l : List UInt8) (z : Int) (h : ParseOut l 0 z) : Calls Tryz.prog 23 #[strV l] w (RetIe w .nilIface z 65536) := by
  have := i_parse_o w l 0 z h
  rw [errV_0] at this
  exact this
theorem cmpI_self (x : Int) : cmpI x x = 0 := by unfold cmpI; simp
theorem itoa_out {w : World} (b : Bool) (A : Option Addr) (n c : Nat) (z : Int) (k : Nat) (h : IZ w b A n c z k) (hk : k ≤ 30) : ParseOut (Lib.itoa z) 0 z := by
  refine .inr (.inr ⟨?_, (itoa_ok z).1, rfl, (itoa_ok z).2.symm⟩)
  have h1 := h.lt
  have h2 : Lib.nDigits z.natAbs ≤ 10 * 30 := nDig_words' hk (by omega) h1
  rw [itoa_abs, List.length_append, Lib.decDigits_length]
  split <;> simp <;> omega
set_option maxRecDepth 100000 in
set_option maxHeartbeats 8000000 in
/-- linkworklaw01.IntegerReturns -/
theorem l_IntegerReturns (w : World) (b : Bool) (A : Option Addr) (n c : Nat) (z : Int) (k : Nat) (H : IZ w b A n c z k) (x : Int) (hx : (Lit.int .i64 x).wf = true) (htab : Tab w) :
    Calls Tryz.prog 5 #[.agg #[.bool b, .slice A n c], .int .i64 x] w (RetV w (.bool true)) := by
  obtain ⟨T, hT⟩ : ∃ T, Lib.itoa z = T := ⟨_, rfl⟩
  have HT := Lib.hid hT
  have hxx : -9223372036854775808 ≤ x ∧ x ≤ 9223372036854775807 := by simpa [Lit.wf, IntKind.min, IntKind.max, IntKind.signed, IntKind.bits] using hx
  have hx0 := hxx.1
  have hx1 : x < 9223372036854775808 := by omega
  have HF := Lib.hid (show intFit x = true by unfold intFit; simp; omega)
  clear hT hx hxx
  go_enter Tryz.func5, Tryz.ntmps5
  go_wp2_with fail
  (with_reducible refine (l_short _ (w.heap.size + 1) 1 (fun i : Nat => n) ?_ ?_).mono ?_); (exact ws1 (blkAt _ _ _ (by simp))); (decide); rintro e w1 ⟨r1, rfl, hr1, hb1⟩
  have q1 : Below w.heap.size w w1 := (((Below.refl _ _).alloc (Nat.le_refl _) _).alloc (by simp) _).trans (hb1.mono (by simp <;> omega))
  replace H := H.belw q1
  have x1_0 : Blk w1 (w.heap.size) 48 #[.bool b, .slice A n c] := ((blkAt _ _ _ (by simp)).alloc _).below hb1 (by simp <;> omega)
  have x1_1 : Blk w1 (w.heap.size + 1) 48 #[.bool b, .slice A n c] := (blkAt _ _ _ (by simp)).below hb1 (by simp)
  have bw1 : Below w.heap.size w w1 := (brefl w).trans (q1.mono (brefl w).size)
  have lw1 : w.heap.size + 2 ≤ w1.heap.size := by have := hb1.size; simp at this; omega
  clear hb1 q1
  cases r1
  · clear hr1
    go_wp2_with fail
    (with_reducible refine (l_awake _  ?_).mono ?_); (exact htab.belw bw1); rintro e w2 ⟨rfl, hb2⟩
    have q2 : Below w1.heap.size w1 w2 := hb2
    replace H := H.belw q2
    replace x1_0 := x1_0.below q2 x1_0.lt
    replace x1_1 := x1_1.below q2 x1_1.lt
    have bw2 : Below w.heap.size w w2 := bw1.trans (q2.mono bw1.size)
    have lw2 : w1.heap.size ≤ w2.heap.size := q2.size
    clear hb2 q2 bw1
    go_wp2_with fail
    go_ret
    exact retB rfl bw2
  · have hn30 : n ≤ 30 := hr1 rfl 0 (by decide)
    replace H := IZ.short H hn30
    clear hr1
    have HP : Hid (ParseOut T 0 z) := Lib.hid (HT.out ▸ itoa_out b A n c z 30 H (Nat.le_refl _))
    go_wp2_with fail
    (with_reducible refine (l_awake _  ?_).mono ?_); (exact htab.belw bw1); rintro e w2 ⟨rfl, hb2⟩
    have q2 : Below w1.heap.size w1 w2 := hb2
    replace H := H.belw q2
    replace x1_0 := x1_0.below q2 x1_0.lt
    replace x1_1 := x1_1.below q2 x1_1.lt
    have bw2 : Below w.heap.size w w2 := bw1.trans (q2.mono bw1.size)
    have lw2 : w1.heap.size ≤ w2.heap.size := q2.size
    clear hb2 q2 bw1
    obtain ⟨cx1_0_0, cx1_0_1⟩ := x1_0.c2
    obtain ⟨lx1_0_0, lx1_0_1, lx1_0_2, lx1_0_3⟩ := lts0 x1_0.lt
    go_wp2_with fail
    (with_reducible refine (i_text_l _ b A n c (z) (30) ?_ T ?_ ?_ ?_).mono ?_); (exact H); (first | omega | decide | assumption); (first | exact htab.belw bw2 | exact (htab.belw bw2).belw (below_drewN (brefl _) 1) | exact (htab.belw bw2).belw (brefl _).drew | fail); (exact HT.out); rintro e w3 ⟨rfl, hb3⟩
    clear cx1_0_0 cx1_0_1 lx1_0_0 lx1_0_1 lx1_0_2 lx1_0_3
    have q3 : Below w2.heap.size w2 w3 := hb3
    replace H := H.belw q3
    replace x1_0 := x1_0.below q3 x1_0.lt
    replace x1_1 := x1_1.below q3 x1_1.lt
    have bw3 : Below w.heap.size w w3 := bw2.trans (q3.mono bw2.size)
    have lw3 : w2.heap.size ≤ w3.heap.size := q3.size
    clear hb3 q3 bw2
    go_wp2_with fail
    (with_reducible refine (i_parse_z _ (T) z ?_).mono ?_); (exact HP.out); rintro e w4 ⟨b4, A4, n4, c4, rfl, h4, hb4⟩
    have q4 : Below w3.heap.size w3 w4 := hb4
    replace H := H.belw q4
    replace x1_0 := x1_0.below q4 x1_0.lt
    replace x1_1 := x1_1.below q4 x1_1.lt
    have bw4 : Below w.heap.size w w4 := bw3.trans (q4.mono bw3.size)
    have lw4 : w3.heap.size ≤ w4.heap.size := q4.size
    clear hb4 q4 bw3
    go_wp2_with fail
    (with_reducible refine (i_of_w _ (x) ?_ ?_).mono ?_); (first | omega | decide | assumption); (first | omega | decide | assumption); rintro e w5 ⟨b5, A5, n5, c5, rfl, h5, hb5⟩
    have q5 : Below w4.heap.size w4 w5 := ((Below.refl _ _).alloc (Nat.le_refl _) _).trans (hb5.mono (by simp))
    replace H := H.belw q5
    replace h4 := h4.belw q5
    replace x1_0 := x1_0.below q5 x1_0.lt
    replace x1_1 := x1_1.below q5 x1_1.lt
    have x5_0 : Blk w5 (w4.heap.size) 48 #[.bool b4, .slice A4 n4 c4] := (blkAt _ _ _ (by simp)).below hb5 (by simp)
    have bw5 : Below w.heap.size w w5 := bw4.trans (q5.mono bw4.size)
    have lw5 : w4.heap.size + 1 ≤ w5.heap.size := by have := hb5.size; simp at this; omega
    clear hb5 q5 bw4
    go_wp2_with fail
    (with_reducible refine (i_int_w _ b5 A5 n5 c5 (x) (2) ?_ x rfl HF.out ?_).mono ?_); (exact h5.iz); (first | omega | decide | assumption); rintro e w6 ⟨rfl, hb6⟩
    have q6 : Below w5.heap.size w5 w6 := hb6
    replace H := H.belw q6
    replace h4 := h4.belw q6
    replace h5 := h5.belw q6
    replace x1_0 := x1_0.below q6 x1_0.lt
    replace x1_1 := x1_1.below q6 x1_1.lt
    replace x5_0 := x5_0.below q6 x5_0.lt
    have bw6 : Below w.heap.size w w6 := bw5.trans (q6.mono bw5.size)
    have lw6 : w5.heap.size ≤ w6.heap.size := q6.size
    clear hb6 q6 bw5
    obtain ⟨cx1_0_0, cx1_0_1⟩ := x1_0.c2
    obtain ⟨lx1_0_0, lx1_0_1, lx1_0_2, lx1_0_3⟩ := lts0 x1_0.lt
    obtain ⟨cx5_0_0, cx5_0_1⟩ := x5_0.c2
    obtain ⟨lx5_0_0, lx5_0_1, lx5_0_2, lx5_0_3⟩ := lts0 x5_0.lt
    go_wp2_with fail
    (with_reducible refine (i_cmp_v _ b4 A4 n4 c4 (z) (65536) ?_ b A n c (z) (30) ?_ 0 (cmpI_self z) ?_).mono ?_); (exact h4.iz); (exact H); (first | omega | decide | assumption); rintro e w7 ⟨rfl, hb7⟩
    clear cx1_0_0 cx1_0_1 lx1_0_0 lx1_0_1 lx1_0_2 lx1_0_3 cx5_0_0 cx5_0_1 lx5_0_0 lx5_0_1 lx5_0_2 lx5_0_3
    have q7 : Below w6.heap.size w6 w7 := hb7
    replace H := H.belw q7
    replace h4 := h4.belw q7
    replace h5 := h5.belw q7
    replace x1_0 := x1_0.below q7 x1_0.lt
    replace x1_1 := x1_1.below q7 x1_1.lt
    replace x5_0 := x5_0.below q7 x5_0.lt
    have bw7 : Below w.heap.size w w7 := bw6.trans (q7.mono bw6.size)
    have lw7 : w6.heap.size ≤ w7.heap.size := q7.size
    clear hb7 q7 bw6
    obtain ⟨cx5_0_0, cx5_0_1⟩ := x5_0.c2
    obtain ⟨lx5_0_0, lx5_0_1, lx5_0_2, lx5_0_3⟩ := lts0 x5_0.lt
    go_wp2_with fail
    (with_reducible refine (i_valid _ b4 A4 n4 c4 (z) (65536) ?_ ?_).mono ?_); (exact h4); (first | omega | decide | assumption); rintro e w8 ⟨rfl, hb8⟩
    clear cx5_0_0 cx5_0_1 lx5_0_0 lx5_0_1 lx5_0_2 lx5_0_3
    have q8 : Below w7.heap.size w7 w8 := hb8
    replace H := H.belw q8
    replace h4 := h4.belw q8
    replace h5 := h5.belw q8
    replace x1_0 := x1_0.below q8 x1_0.lt
    replace x1_1 := x1_1.below q8 x1_1.lt
    replace x5_0 := x5_0.below q8 x5_0.lt
    have bw8 : Below w.heap.size w w8 := bw7.trans (q8.mono bw7.size)
    have lw8 : w7.heap.size ≤ w8.heap.size := q8.size
    clear hb8 q8 bw7
    go_wp2_with fail
    go_ret
    exact retB rfl bw8
end Go.Proofs.YtpnnfbodphflpaaGreatDoor

namespace Go.Proofs.YtpnnfbodphflpaaGreatDoor
open Go Go.RowKit Bn Go.ChangeShapes Go.WideShapes Go.ChangeAt
set_option maxRecDepth 100000 in
theorem returns_contract (H : Type) (enc : TypeId × Value → H) (W : World) (base : Nat) (args : Array Value) (ds gs : List (DataW H)) (before : List MemPlace)
    (hval0 : ∀ (j : Nat) t v, Tryz.f5.params[j]? = some t → args[j]? = some v → Value.okWide Tryz.prog W .any base t v)
    (hW : DataW.Whole enc Tryz.prog Tryz.f5.params.toList Rows.integerReturnsSpec.vars false W args.toList ds gs before) (hL : laidMetH Tryz.prog Rows.integerReturnsRow.laid W) :
    Calls Tryz.prog 5 args W fun e W' => ∃ v, e = .returned v ∧ Rows.integerReturnsSpec.post enc Tryz.prog Tryz.f5 false true false false W args v W' := by
  have hval : ∀ (j : Nat) t v, Tryz.f5.params[j]? = some t → args[j]? = some v → Value.okWide Tryz.prog W .any base t v := hval0
  have htab : Tab W := tab_of_laid hL
  have hW' := hW
  obtain ⟨p, q, hA0, hV, rfl, hfz, hnd⟩ := hW
  have hA : DataW.TrodAll enc Tryz.prog W 0 (fun _ => true) true Tryz.f5.params.toList args.toList ds p := hA0
  rw [Tryz.params5] at hA hval
  obtain ⟨v0, v1, d0, d1, p0, p1, rfl, rfl, rfl, h0, h1⟩ := trodAll_two hA
  obtain ⟨rfl, rfl⟩ := trodVars_none hV
  obtain ⟨b, A, n, c, z, k, rfl, H⟩ := whole_open (hval 0 _ v0 rfl rfl) h0
  obtain ⟨x, rfl, rfl, rfl, hx⟩ := open_int Tryz.underlying3 (hval 1 _ v1 rfl rfl) h1
  refine (l_IntegerReturns W b A n c z k H x hx htab).mono fun e W' ⟨he, hb⟩ => ?_
  subst he
  exact ⟨_, rfl, law_post laid_out Tryz.underlying4 hW' rfl rfl (by kernel_rfl) rfl rfl rfl hb⟩
set_option maxRecDepth 100000 in
theorem returns_lifted (os : Os) (started : os.Started) (H : Type) (enc : TypeId × Value → H) (F : Stop.Interp) :
    ReturnsInHanded {} Tryz.checked os 5 .any ((OpenSpec.ofChange Rows.integerReturnsSpec).preRow enc Tryz.prog Tryz.f5 Rows.integerReturnsRow.domain false Rows.integerReturnsRow.laid) (((OpenSpec.ofChange Rows.integerReturnsSpec).at F).post enc Tryz.prog Tryz.f5 false true false false) := by
  have hx : DataW.whole enc Tryz.prog ((laidWorld os).forCall (fun _ _ => 0) ⟨#[], #[.agg #[.bool false, .slice none 0 0], .int .i64 0], []⟩).memory Tryz.f5.params.toList Rows.integerReturnsSpec.vars false (#[.agg #[.bool false, .slice none 0 0], .int .i64 0] : Array Value).toList 8 = some ([.agg [.lit (.bool false), .nil], .lit (.int .i64 0)], [], []) := by kernel_rfl
  have hl : laidMet Tryz.prog Rows.integerReturnsRow.laid ((laidWorld os).forCall (fun _ _ => 0) ⟨#[], #[.agg #[.bool false, .slice none 0 0], .int .i64 0], []⟩).memory := laidMet_of_run' 8 (by kernel_rfl) (by kernel_rfl)
  refine returnsInHanded_of_row (C := Tryz.checked) (s := OpenSpec.ofChange Rows.integerReturnsSpec) own_knob started (by kernel_rfl) Tryz.func5
    (witness_row_at (enc := enc) (C := Tryz.checked) false (laidWorld os) #[.agg #[.bool false, .slice none 0 0], .int .i64 0] rfl (by kernel_rfl) (by kernel_rfl) (by kernel_rfl)
      (OpenSpec.preRow_of_cond 8 hx (by kernel_rfl) (fun k hk => by cases hk) (by kernel_rfl) hl)) ?_
  intro W base args ds gs before hval hW _ _ _ hL _ _
  exact returns_contract H enc W base args ds gs before hval hW hL
theorem returns_said : Rows.IntegerReturnsSaid :=
  OpenClaim.holds_of_cond 5 Tryz.f5 rfl rfl rfl rfl rfl rfl rfl ⟨rfl, rfl, rfl, rfl, rfl⟩ rfl rfl rfl rfl rfl (by kernel_rfl) Tryz.func5 (by kernel_rfl)
    (of_decide_eq_true (by kernel_rfl)) (by unfold Func.isWrapper; first | (rw [if_pos (by decide +kernel)]; kernel_rfl) | (rw [if_neg (by decide +kernel)]; exact ⟨rfl, rfl⟩))
    (fun os started H enc _ F => by rw [OpenClaim.pre_eq_preRow]; exact returns_lifted os started H enc F)
theorem returns_plain (f : FuncId) (fn : Func) (hf : Tryz.pinned.checked.prog.funcNamed "linkwork/linkworklaw01.IntegerReturns" = some f) (hfn : Tryz.pinned.checked.prog.funcs[f]? = some fn) :
    true = Tryz.pinned.checked.prog.looks [] ∧ ∀ (j : Nat) t, fn.params[j]? = some t → Tryz.pinned.checked.prog.wantsStandIn t = false := by
  obtain rfl : f = 5 := Option.some.inj ((show Tryz.prog.funcNamed "linkwork/linkworklaw01.IntegerReturns" = some 5 by kernel_rfl).symm.trans hf) |>.symm
  obtain rfl : fn = Tryz.f5 := (Option.some.inj (Tryz.func5.symm.trans hfn)).symm
  refine ⟨by kernel_rfl, fun j t ht => ?_⟩
  rw [Tryz.params5] at ht
  have hm : t ∈ [48, 3] := by
    have := Array.mem_of_getElem? ht
    simp at this ⊢
    first
      | exact this
      | exact .inl this
  have hall : ([48, 3].all fun u => !Tryz.prog.wantsStandIn u) = true := by kernel_rfl
  exact (show Tryz.prog.wantsStandIn t = false by simpa using List.all_eq_true.1 hall t hm)
theorem returns_holds : Rows.IntegerReturnsCardSaid :=
  Claim7.holds_tied_plain_at .later [] _ _ _ _ returns_said (fun _ h => by cases h) (by kernel_rfl) (fun _ h => by cases h) integerReturns_row_tie rfl ⟨rfl, rfl⟩ (by kernel_rfl) rfl returns_plain (by kernel_rfl)
end Go.Proofs.YtpnnfbodphflpaaGreatDoor
