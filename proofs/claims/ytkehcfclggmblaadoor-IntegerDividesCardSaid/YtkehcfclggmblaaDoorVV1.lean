/- IntegerDivides: quotients, rests, roots, greatest common divisors and their errors are those of the reference; for every input the law returns true. The listed library tables are tied to the program text. -/
import Derived.BigQuiet
import Derived.Deep.RegionHeld3
import Derived.Deep.DrawnRows
import Derived.Deep.RegionHeld
import Derived.Test.YtkehcfclggmblaaDoorA3
set_option linter.unusedVariables false
/- Walks: the reference's division. -/
namespace Go.Proofs.YtkehcfclggmblaaDoor
open Go Go.RowKit Bn
attribute [local go_sem ↓] Go.wp_at_zero Go.wp_at_succ

theorem val_rep (m : Nat) : val (List.replicate m 0) = 0 := by
  induction m with
  | zero => rfl
  | succ m ih => rw [List.replicate_succ, val, ih]
theorem wds_rep (m : Nat) : Wds (List.replicate m 0) := by intro x hx; rw [List.eq_of_mem_replicate hx]; omega
theorem words_cells (l : List Nat) : (cellsOf l).toList = words l := by simp [cellsOf, words]
theorem OwS.made (w : World) {B : Nat} (L : List Nat) (n : Nat) (hB : B ≤ w.heap.size) (hn : n ≤ 4398046511104) (hL : L.length = n) (hW : Wds L) : OwS (w.alloc (.cells (cellsOf L) 53)) B w.heap.size n n L := by
  refine ⟨?_, hW⟩
  rw [← words_cells]
  exact World.ownsRow_lit w (cellsOf L) n hB (by unfold maxLen; omega) (by simp [cellsOf, hL])
theorem OwS.far {w : World} {B g n cap : Nat} {l : List Nat} (h : OwS w B g n cap l) {p : Addr} (hp : g ≠ p.block) (u : Value) : OwS (w.setCell p u) B g n cap l := by
  refine ⟨⟨h.1.1, ?_⟩, h.2⟩
  rcases h.1.2 with ⟨e, _⟩ | ⟨g', c', cur, e, hB, hgg, r⟩
  · cases e
  · have e' := e
    injection e with e1 _ e2; injection e1 with e1; injection e1 with e1; subst e1
    exact .inr ⟨g, c', cur, e', hB, (Below.heap_setCell w p u g hp).trans hgg, r⟩
theorem or_word {u p s : Nat} (hu : u + p < 4294967296) (ho : u ||| p = u + p) (hp : 2 ^ s = p) : bits .or .u32 (u : Int) ((2 : Int) ^ s % 4294967296) = ((u + p : Nat) : Int) := by
  have e : (2 : Int) ^ s % 4294967296 = (p : Int) := by
    have h : (2 : Int) ^ s = ((2 ^ s : Nat) : Int) := by simp
    rw [h, hp]; omega
  rw [e, ← ho]
  exact u32_or_nat u p (by omega) (by omega)
theorem q_in {q m : Nat} : (2 * q + 1) * 2 ^ m = q * 2 ^ (m + 1) + 2 ^ m := by rw [Nat.pow_succ]; grind
theorem q_out {q m : Nat} : (2 * q) * 2 ^ m = q * 2 ^ (m + 1) := by rw [Nat.pow_succ]; grind
def DivO (a b : Nat) (Lq Lr : List Nat) (k : Nat) : Prop := val Lq = a / 2 ^ k / b * 2 ^ k ∧ val Lr = a / 2 ^ k % b
set_option maxRecDepth 100000 in
set_option maxHeartbeats 2000000 in
/-- linkworkref01.divide -/
theorem r_divide_c (w : World) (A : Option Addr) (n c : Nat) (l : List Nat) (wa : Wd w A n c l) (hn : n ≤ 1000000000000) (A' : Option Addr) (n' c' : Nat) (l' : List Nat) (wb : Wd w A' n' c' l') (hn' : n' ≤ 1000000000000) (h0 : val l' ≠ 0) :
    Calls Tryd.prog 49 #[.slice A n c, .slice A' n' c'] w (RetD w (val l) (val l')) := by
  have HL := Lib.hid wa.2.1
  have HL' := Lib.hid wb.2.1
  obtain ⟨va, hva⟩ : ∃ v, val l = v := ⟨_, rfl⟩
  obtain ⟨vb, hvb⟩ : ∃ v, val l' = v := ⟨_, rfl⟩
  have HA := Lib.hid hva
  have HB := Lib.hid hvb
  rw [hvb] at h0
  have H0 := Lib.hid (Nat.pos_of_ne_zero h0)
  rw [hva, hvb]
  obtain ⟨gb, ob, rfl, hgb, _⟩ := wb.at2 (by
    rcases Nat.eq_zero_or_pos n' with e | e
    · exfalso
      have h9 := HL'.out
      rw [e] at h9
      rw [List.eq_nil_of_length_eq_zero h9.symm] at hvb
      exact h0 hvb.symm
    · exact e)
  clear h0 hva hvb
  go_enter Tryd.func49, Tryd.ntmps49
  go_wp2_with (first
    | (at_make; refine wpList_make_words _ rfl _ _ rfl _ _ _ _ n rfl rfl (by omega) (by omega) (by omega) ?_)
    | (at_make; refine wpList_make_words _ rfl _ _ rfl _ _ _ _ (n' + 1) rfl rfl (by omega) (by omega) (by omega) ?_))
  (with_reducible refine (r_bits_c _ A n c l ?_ (by omega)).mono ?_); (exact wa.keep (((Kp.refl w).alloc _).alloc _)); rintro e w1 ⟨N, rfl, hN1, hN2, rfl⟩
  rw [HA.out] at hN1
  go_wp2_with fail
  have oq0 : OwS ((w.alloc (.cells (cellsOf (List.replicate n 0)) 53)).alloc (.cells (cellsOf (List.replicate (n' + 1) 0)) 53)) w.heap.size w.heap.size n n (List.replicate n 0) :=
    (OwS.made w (List.replicate n 0) n (Nat.le_refl _) (by omega) (by simp) (wds_rep n)).belw ((brefl _).alloc (Nat.le_refl _) _)
  have or0 : OwS ((w.alloc (.cells (cellsOf (List.replicate n 0)) 53)).alloc (.cells (cellsOf (List.replicate (n' + 1) 0)) 53)) w.heap.size (w.heap.size + 1) (n' + 1) (n' + 1) (List.replicate (n' + 1) 0) := by
    have h := OwS.made (w.alloc (.cells (cellsOf (List.replicate n 0)) 53)) (B := w.heap.size) (List.replicate (n' + 1) 0) (n' + 1) (by simp) (by omega) (by simp) (wds_rep _)
    simpa using h
  have HO := Lib.hid (And.intro oq0 or0)
  clear oq0 or0
  go_loopw [8] (fun iv wr => ∃ (k : Nat) (z : Int) (Lq Lr : List Nat), k ≤ N ∧ iv = .int .i64 z ∧ z + 1 = (k : Int) ∧ DivO va vb Lq Lr k ∧ OwS wr w.heap.size w.heap.size n n Lq ∧ OwS wr w.heap.size (w.heap.size + 1) (n' + 1) (n' + 1) Lr ∧ Below w.heap.size w wr) (fun iv _ => (intOf iv + 1).toNat)
  case atStart =>
    refine ⟨N, (N : Int) - 1, _, _, Nat.le_refl _, by go_num, by omega, ⟨?_, ?_⟩, HO.out.1, HO.out.2, ((brefl w).alloc (Nat.le_refl _) _).alloc (by simp) _⟩
    · rw [val_rep, Nat.div_eq_of_lt hN1]; simp
    · rw [val_rep, Nat.div_eq_of_lt hN1]; simp
  case round =>
    obtain ⟨k, z, Lq, Lr, hk, rfl, hz, hI, hq, hr, hbel⟩ := hrel
    have HK := Lib.hid ((Kp.refl w).below hbel)
    have HI := Lib.hid hI
    have HQ := Lib.hid hq
    have HR := Lib.hid hr
    have HBL := Lib.hid hbel
    clear hI hq hr hbel HO
    by_cases hk0 : k = 0
    · subst hk0
      have ez : z = -1 := by omega
      subst ez
      go_wp2_with fail
      (with_reducible refine (r_trim_c _ (some ⟨w.heap.size, 0, none⟩) n n Lq ?_ (by omega)).mono ?_); (exact HQ.out.toWd); rintro e w1 ⟨A1, n1, c1, rfl, h1, hb1⟩
      have HR2 := Lib.hid (HR.out.belw hb1)
      have HBL2 := Lib.hid (HBL.out.trans (hb1.mono HBL.out.size))
      clear hb1
      go_wp2_with fail
      (with_reducible refine (r_trim_c _ (some ⟨w.heap.size + 1, 0, none⟩) (n' + 1) (n' + 1) Lr ?_ (by omega)).mono ?_); (exact HR2.out.toWd); rintro e w2 ⟨A2, n2, c2, rfl, h2, hb2⟩
      have h1' := h1.keep ((Kp.refl w1).below hb2)
      have HBL3 := HBL2.out.trans (hb2.mono HBL2.out.size)
      rw [HI.out.1] at h1'
      rw [HI.out.2] at h2
      simp only [Nat.pow_zero, Nat.div_one, Nat.mul_one] at h1' h2
      have HF := Lib.hid (And.intro h1' (And.intro h2 HBL3))
      clear h1 h1' h2 HBL3 hb2
      go_wp2
      refine bodyPost_ret (v := .tuple #[.slice A1 n1 c1, .slice A2 n2 c2]) (by simp [results, Tryd.results49, go_sem]) rfl ?_
      exact ⟨A1, n1, c1, A2, n2, c2, rfl, HF.out.1, HF.out.2.1, HF.out.2.2⟩
    · obtain ⟨m, rfl⟩ : ∃ m, k = m + 1 := ⟨k - 1, by omega⟩
      have ez : z = (m : Int) := by omega
      subst ez
      have hm32 : m / 32 < n := by omega
      obtain ⟨ga, oa, rfl, hgl, hca⟩ := (wa.keep HK.out).at2 (by omega)
      have hcx := hca (m / 32) hm32
      obtain ⟨x, hx⟩ : ∃ x, wd l (m / 32) = x := ⟨_, rfl⟩
      have hx1 : x < 4294967296 := by rw [← hx]; exact wa.lt _
      rw [hx] at hcx
      have HX := Lib.hid hx
      obtain ⟨br, hbr⟩ : ∃ d, bits .and .u32 ((x : Int) / 2 ^ (m % 32)) 1 = d := ⟨_, rfl⟩
      obtain ⟨b, hb⟩ : ∃ b, va / 2 ^ m % 2 = b := ⟨_, rfl⟩
      have hbb : br = (b : Int) := by
        rw [← hbr, ← hb, ← HA.out, ← wd_bit wa.1 m, hx]
        have e : (x : Int) / 2 ^ (m % 32) = ((x / 2 ^ (m % 32) : Nat) : Int) := by simp
        rw [e, and_one _ (Nat.lt_of_le_of_lt (Nat.div_le_self _ _) hx1)]
      have HB1 := Lib.hid hb
      have hb1 : b ≤ 1 := by omega
      clear hca hx hz hk0 hb
      go_wp2_with fail
      try rw [hbb]
      clear hbr hbb
      go_loopw [9, 36] (fun cv kv w2 => ∃ (k cr : Nat) (L2 : List Nat), k ≤ n' + 1 ∧ kv = .int .i64 (k : Nat) ∧ cv = .int .u32 (cr : Nat) ∧ cr ≤ 1 ∧ DblI Lr L2 b k cr ∧ OwS w2 w.heap.size w.heap.size n n Lq ∧ OwS w2 w.heap.size (w.heap.size + 1) (n' + 1) (n' + 1) L2 ∧ Below w.heap.size w w2) (fun _ kv _ => n' + 1 - (intOf kv).toNat)
      case atStart => exact ⟨0, b, Lr, Nat.zero_le _, rfl, rfl, hb1, DblI.start _ _, HQ.out, HR.out, HBL.out⟩
      case round =>
        obtain ⟨k, cr, L2, hk2, rfl, rfl, hcr, hI2, hq2, hr2, hbel2⟩ := hrel
        have HI2 := Lib.hid hI2
        have HQ2 := Lib.hid hq2
        have HR2 := Lib.hid hr2
        have HBL2 := Lib.hid hbel2
        clear hI2 hq2 hr2 hbel2
        by_cases hkk : k < n' + 1
        · obtain ⟨y, hy⟩ : ∃ y, wd Lr k = y := ⟨_, rfl⟩
          have hy1 : y < 4294967296 := by rw [← hy]; exact wd_lt HR.out.2 _
          have hck := HR2.out.cell k hkk
          rw [HI2.out.1 k (Nat.le_refl _), hy] at hck
          have hfk := HR2.out.frozen k
          have HY := Lib.hid hy
          obtain ⟨s, hs⟩ : ∃ s, bits .or .u32 ((y : Int) * 2 % 4294967296) (cr : Int) = s := ⟨_, rfl⟩
          have he : s = ((y * 2 % 4294967296 + cr : Nat) : Int) := by
            rw [← hs, ← (dbl_word hcr hy1).1]
            exact u32_or_nat (y * 2 % 4294967296) cr (Nat.mod_lt _ (by decide)) (by omega)
          have HE := Lib.hid he
          have HS := Lib.hid (dbl_word hcr hy1).2
          clear hy he
          go_wp2
          go_region
          clear hs
          go_wp2
          go_roundw
          case rel =>
            have hst := HI2.out.step HY.out hy1 (by rw [← HR2.out.len]; exact hkk)
            refine ⟨k + 1, y / 2147483648, L2.set k (y * 2 % 4294967296 + cr), by omega, by go_num, by go_num, HS.out.2, hst, ?_, ?_, ?_⟩
            · exact OwS.far (w := wr) HQ2.out (p := ⟨w.heap.size + 1, k, none⟩) (by simp) _
            · exact OwS.set (w := wr) HR2.out k HS.out.1 HE.out
            · exact (Below.setCell HBL2.out (p := ⟨w.heap.size + 1, k, none⟩) (by simp) _).drew
          case measure => simp [intOf]; omega
        · have hkn : k = n' + 1 := by omega
          subst hkn
          have hv2 : val L2 = 2 * val Lr + b := by
            have h3 := HR2.out.len
            have h4 := HR.out.len
            refine DblI.fin HI2.out (by omega) (by omega) ?_
            refine dbl_room (v := vb) ?_ ?_ hb1
            · rw [HI.out.2]; exact Nat.mod_lt _ H0.out
            · rw [← HB.out, HL'.out]; exact val_lt wb.1
          rw [HI.out.2, ← HB1.out] at hv2
          obtain ⟨r2, hr2⟩ : ∃ r, val L2 = r := ⟨_, rfl⟩
          rw [hr2] at hv2
          have HV := Lib.hid hv2
          have HR2v := Lib.hid hr2
          clear hv2 hr2
          by_cases hge : vb ≤ r2
          · have hc0 : 0 ≤ cmpN r2 vb := by unfold cmpN; (repeat' split) <;> omega
            obtain ⟨cv, hcv⟩ : ∃ cv, cmpN r2 vb = cv := ⟨_, rfl⟩
            rw [hcv] at hc0
            have HC := Lib.hid hcv
            clear hcv
            go_wp2_with fail
            (with_reducible refine (r_compare_c _ (some ⟨w.heap.size + 1, 0, none⟩) (n' + 1) (n' + 1) L2 ?_ ?_ (some ⟨gb, ob, none⟩) n' c' l' ?_ ?_).mono ?_); (exact HR2.out.toWd); (omega); (exact wb.keep ((Kp.refl w).below HBL2.out)); (omega); rintro e w1 ⟨rfl, hbl1⟩
            rw [HR2v.out, HB.out, HC.out]
            have HQ3 := Lib.hid (HQ2.out.belw hbl1)
            have HR3 := Lib.hid (HR2.out.belw hbl1)
            have HBL3 := Lib.hid (HBL2.out.trans (hbl1.mono HBL2.out.size))
            clear hbl1 HQ2 HR2 HBL2
            go_wp2_with fail
            (with_reducible refine (r_take_o _ w.heap.size (w.heap.size + 1) (n' + 1) (n' + 1) L2 ?_ ?_ (some ⟨gb, ob, none⟩) n' c' l' ?_ ?_ ?_ ?_).mono ?_)
            · exact HR3.out
            · omega
            · exact wb.keep ((Kp.refl w).below HBL3.out)
            · intro ad e; injection e with e; subst e; show gb ≠ _; omega
            · omega
            · rw [HR2v.out, HB.out]; exact hge
            rintro e w2 ⟨L3, rfl, hr3, hv3, hon⟩
            rw [HR2v.out, HB.out] at hv3
            have hq3 := hon.own HQ3.out (by omega)
            have HBL4 := Lib.hid (HBL3.out.trans (hon.1.mono (by omega)))
            have HR4 := Lib.hid hr3
            have HV3 := Lib.hid hv3
            obtain ⟨u, hu⟩ : ∃ u, wd Lq (m / 32) = u := ⟨_, rfl⟩
            have hcq := hq3.cell (m / 32) hm32
            have hfq := hq3.frozen (m / 32)
            rw [hu] at hcq
            have hob := or_bit HQ.out.2 m (by rw [← HQ.out.len]; exact hm32) HI.out.1
            rw [hu] at hob
            obtain ⟨p, hp⟩ : ∃ p, 2 ^ (m % 32) = p := ⟨_, rfl⟩
            rw [hp] at hob
            have HQ4 := Lib.hid hq3
            have HOB := Lib.hid hob
            have HU := Lib.hid hu
            have HP := Lib.hid hp
            clear hr3 hv3 hon hq3 HQ3 HR3 HBL3 hu hob hp
            go_wp2
            go_region
            go_wp2
            go_roundw
            case rel =>
              have hbi := bit_in (a := va) (k := m) HV.out hge H0.out
              have he := or_word HOB.out.2.1 HOB.out.1 HP.out
              refine ⟨m, (m : Int) - 1, Lq.set (m / 32) (u + p), L3, by omega, by go_num, by omega, ⟨?_, ?_⟩, ?_, ?_, ?_⟩
              · rw [HOB.out.2.2, HI.out.1, hbi.1, q_in]
              · rw [HV3.out, hbi.2]
              · exact OwS.set (w := w2) HQ4.out (m / 32) HOB.out.2.1 he
              · exact OwS.far (w := w2) HR4.out (p := ⟨w.heap.size, m / 32, none⟩) (by simp) _
              · exact (Below.setCell HBL4.out (p := ⟨w.heap.size, m / 32, none⟩) (by simp) _).drew
            case measure => simp [intOf] <;> omega
          · have hc0 : cmpN r2 vb < 0 := by unfold cmpN; (repeat' split) <;> omega
            obtain ⟨cv, hcv⟩ : ∃ cv, cmpN r2 vb = cv := ⟨_, rfl⟩
            rw [hcv] at hc0
            have HC := Lib.hid hcv
            clear hcv
            go_wp2_with fail
            (with_reducible refine (r_compare_c _ (some ⟨w.heap.size + 1, 0, none⟩) (n' + 1) (n' + 1) L2 ?_ ?_ (some ⟨gb, ob, none⟩) n' c' l' ?_ ?_).mono ?_); (exact HR2.out.toWd); (omega); (exact wb.keep ((Kp.refl w).below HBL2.out)); (omega); rintro e w1 ⟨rfl, hbl1⟩
            rw [HR2v.out, HB.out, HC.out]
            have HQ3 := Lib.hid (HQ2.out.belw hbl1)
            have HR3 := Lib.hid (HR2.out.belw hbl1)
            have HBL3 := Lib.hid (HBL2.out.trans (hbl1.mono HBL2.out.size))
            clear hbl1 HQ2 HR2 HBL2
            go_wp2
            go_roundw
            case rel =>
              have hbi := bit_out (a := va) (k := m) HV.out (by omega)
              refine ⟨m, (m : Int) - 1, Lq, L2, by omega, by go_num, by omega, ⟨?_, ?_⟩, HQ3.out, HR3.out, HBL3.out⟩
              · rw [HI.out.1, hbi.1, q_out]
              · rw [HR2v.out, hbi.2]
            case measure => simp [intOf] <;> omega
end Go.Proofs.YtkehcfclggmblaaDoor

/- Walks: the reference's Div, of a dividend that is not negative or that the divisor divides. -/
namespace Go.Proofs.YtkehcfclggmblaaDoor
open Go Go.RowKit Bn
attribute [local go_sem ↓] Go.wp_at_zero Go.wp_at_succ
theorem r_neg_e (w : World) (b : Bool) (A : Option Addr) (n c : Nat) (l : List Nat) (s : Bool) (wa : Wd w A n c l) (hn : n ≤ 1099511627776) (hs : WD.s ⟨b, l⟩ = s) :
    Calls Tryd.prog 51 #[.agg #[.bool b, .slice A n c]] w (RetV w (.bool s)) := by subst hs; exact r_neg_c w b A n c l wa hn
theorem r_sign_x (w : World) (b : Bool) (A : Option Addr) (n c : Nat) (l : List Nat) (s : Int) (wa : Wd w A n c l) (hn : n ≤ 1099511627000) (hs : (WD.z ⟨b, l⟩).sign = s) :
    Calls Tryd.prog 26 #[.agg #[.bool b, .slice A n c]] w (RetV w (.int .i64 s)) := by subst hs; exact r_sign_c w b A n c l wa hn
theorem r_divide_e (w : World) (A : Option Addr) (n c : Nat) (l : List Nat) (wa : Wd w A n c l) (hn : n ≤ 1000000000000) (A' : Option Addr) (n' c' : Nat) (l' : List Nat) (wb : Wd w A' n' c' l') (hn' : n' ≤ 1000000000000) (x y : Nat) (hx : val l = x) (hy : val l' = y) (h0 : y ≠ 0) :
    Calls Tryd.prog 49 #[.slice A n c, .slice A' n' c'] w (RetD w x y) := by subst hx hy; exact r_divide_c w A n c l wa hn A' n' c' l' wb hn' h0
/-- What Div returns. -/
def RetDivR (w : World) (q r : Int) (e : Ending) (w' : World) : Prop := ∃ A1 n1 c1 A2 n2 c2, e = .returned (.tuple #[.agg #[.bool (wh q).neg, .slice A1 n1 c1], .agg #[.bool (wh r).neg, .slice A2 n2 c2], .int .i64 0]) ∧ Wd w' A1 n1 c1 (wh q).mag ∧ Wd w' A2 n2 c2 (wh r).mag ∧ Below w.heap.size w w'
set_option maxHeartbeats 4000000 in
/-- linkworkref01.Div -/
theorem r_div_C (w : World) (b : Bool) (A : Option Addr) (n c : Nat) (l : List Nat) (wa : Wd w A n c l) (hn : n ≤ 1000000000000) (b' : Bool) (A' : Option Addr) (n' c' : Nat) (l' : List Nat) (wb : Wd w A' n' c' l') (hn' : n' ≤ 1000000000000) (h0 : WD.z ⟨b', l'⟩ ≠ 0) (hr0 : WD.z ⟨b, l⟩ % WD.z ⟨b', l'⟩ = 0) :
    Calls Tryd.prog 13 #[.agg #[.bool b, .slice A n c], .agg #[.bool b', .slice A' n' c']] w (RetDivR w (WD.z ⟨b, l⟩ / WD.z ⟨b', l'⟩) (WD.z ⟨b, l⟩ % WD.z ⟨b', l'⟩)) := by
  have HL := Lib.hid wa.2.1
  have HL' := Lib.hid wb.2.1
  obtain ⟨s0, hs0'⟩ : ∃ s, (WD.z ⟨b', l'⟩).sign = s := ⟨_, rfl⟩
  have es0 : ((s0 : Int) == 0) = false := by simp; rintro rfl; exact h0 (Int.sign_eq_zero_iff_zero.1 hs0')
  have HSG := Lib.hid hs0'
  clear hs0'
  have hd0 : val (WD.m ⟨b', l'⟩) ∣ val (WD.m ⟨b, l⟩) := by
    rw [← z_nat ⟨b, l⟩, ← z_nat ⟨b', l'⟩]
    exact Int.natAbs_dvd_natAbs.2 (Int.dvd_of_emod_eq_zero hr0)
  rw [WD.z_eq] at h0 ⊢
  rw [WD.z_eq ⟨b', l'⟩]
  have hv2 : val (WD.m ⟨b', l'⟩) ≠ 0 := by intro e; rw [e] at h0; exact h0 (by cases (WD.s ⟨b', l'⟩) <;> rfl)
  obtain ⟨sa, hsa⟩ : ∃ s, WD.s ⟨b, l⟩ = s := ⟨_, rfl⟩
  obtain ⟨sb, hsb⟩ : ∃ s, WD.s ⟨b', l'⟩ = s := ⟨_, rfl⟩
  rw [hsa, hsb]
  obtain ⟨x, hx⟩ : ∃ x, val (WD.m ⟨b, l⟩) = x := ⟨_, rfl⟩
  obtain ⟨y, hy⟩ : ∃ y, val (WD.m ⟨b', l'⟩) = y := ⟨_, rfl⟩
  rw [hx, hy]
  rw [hx, hy] at hd0
  have HS := Lib.hid (And.intro hsa hsb)
  have HX := Lib.hid (And.intro hx hy)
  have HY := Lib.hid (show y ≠ 0 from hy ▸ hv2)
  have HR0 := Lib.hid (Nat.mod_eq_zero_of_dvd hd0)
  clear hsa hsb hx hy hv2 h0 hr0 hd0
  go_enter Tryd.func13, Tryd.ntmps13
  go_wp2_with fail
  have b0 : Below w.heap.size w ((((w.alloc (.cells #[.bool b, .slice A n c] 24)).alloc (.cells #[.bool b', .slice A' n' c'] 24)).alloc (.cells #[.bool false, .slice none 0 0] 24)).alloc (.cells #[.bool false, .slice none 0 0] 24)) := (((((Below.refl _ _).alloc (Nat.le_refl _) _).alloc (by simp) _).alloc (by simp; omega) _).alloc (by simp; omega) _)
  generalize hW0 : ((((w.alloc (.cells #[.bool b, .slice A n c] 24)).alloc (.cells #[.bool b', .slice A' n' c'] 24)).alloc (.cells #[.bool false, .slice none 0 0] 24)).alloc (.cells #[.bool false, .slice none 0 0] 24)) = W0 at b0 ⊢
  have c00 : W0.cell? ⟨w.heap.size, 0, none⟩ = some (.bool b) := by subst hW0; simp [go_sem]
  have f00 : W0.frozen? ⟨w.heap.size, 0, none⟩ = false := by subst hW0; simp [go_sem]
  have c01 : W0.cell? ⟨w.heap.size, 1, none⟩ = some (.slice A n c) := by subst hW0; simp [go_sem]
  have f01 : W0.frozen? ⟨w.heap.size, 1, none⟩ = false := by subst hW0; simp [go_sem]
  have c10 : W0.cell? ⟨w.heap.size + 1, 0, none⟩ = some (.bool b') := by subst hW0; simp [go_sem]
  have f10 : W0.frozen? ⟨w.heap.size + 1, 0, none⟩ = false := by subst hW0; simp [go_sem]
  have c11 : W0.cell? ⟨w.heap.size + 1, 1, none⟩ = some (.slice A' n' c') := by subst hW0; simp [go_sem]
  have f11 : W0.frozen? ⟨w.heap.size + 1, 1, none⟩ = false := by subst hW0; simp [go_sem]
  have c20 : W0.cell? ⟨w.heap.size + 1 + 1, 0, none⟩ = some (.bool false) := by subst hW0; simp [go_sem]
  have f20 : W0.frozen? ⟨w.heap.size + 1 + 1, 0, none⟩ = false := by subst hW0; simp [go_sem]
  have c21 : W0.cell? ⟨w.heap.size + 1 + 1, 1, none⟩ = some (.slice none 0 0) := by subst hW0; simp [go_sem]
  have f21 : W0.frozen? ⟨w.heap.size + 1 + 1, 1, none⟩ = false := by subst hW0; simp [go_sem]
  have c30 : W0.cell? ⟨w.heap.size + 1 + 1 + 1, 0, none⟩ = some (.bool false) := by subst hW0; simp [go_sem]
  have f30 : W0.frozen? ⟨w.heap.size + 1 + 1 + 1, 0, none⟩ = false := by subst hW0; simp [go_sem]
  have c31 : W0.cell? ⟨w.heap.size + 1 + 1 + 1, 1, none⟩ = some (.slice none 0 0) := by subst hW0; simp [go_sem]
  have f31 : W0.frozen? ⟨w.heap.size + 1 + 1 + 1, 1, none⟩ = false := by subst hW0; simp [go_sem]
  have x0 : Box W0 (w.heap.size) 24 := by subst hW0; exact (((boxAt _ _ _ (by simp)).alloc _).alloc _).alloc _
  have x1 : Box W0 (w.heap.size + 1) 24 := by subst hW0; exact ((boxAt _ _ _ (by simp)).alloc _).alloc _
  have x2 : Box W0 (w.heap.size + 1 + 1) 24 := by subst hW0; exact (boxAt _ _ _ (by simp)).alloc _
  have x3 : Box W0 (w.heap.size + 1 + 1 + 1) 24 := by subst hW0; exact boxAt _ _ _ (by simp)
  have hm0 : Made (w.heap.size + 1 + 1) (w.heap.size + 1 + 1 + 1 + 1) 2 W0 := by subst hW0; exact made2 (by simp) rfl
  have hs0 : w.heap.size + 1 + 1 + 1 + 1 ≤ W0.heap.size := by subst hW0; simp
  clear hW0
  have wa := wa.belw b0
  have wb := wb.belw b0
  have r0 : Below W0.heap.size W0 W0 := brefl _
  go_wp2_with (first
    | (go_at_call 26; (with_reducible refine (r_sign_x _ b' A' n' c' l' s0 ?_ ?_ ?_).mono ?_); (exact wb); (omega); (exact HSG.out); rintro e w1 ⟨rfl, hb1⟩; have r1 := bnext r0 hb1; replace wa := wa.belw hb1; replace wb := wb.belw hb1; (try clear sc sf sr sz); obtain ⟨⟨sc, sf⟩, sr, sz⟩ := Seen.of (by omega) hs0 hm0 r1))
  (try clear sc sf sr sz)
  have hRB : w.heap.size + 1 + 1 ≤ w.heap.size + 1 + 1 + 1 + 1 := by omega
  go_region_held3 (fun w' => Sees (w.heap.size + 1 + 1) W0 w') (first | exact Sees.of (Nat.le_trans hRB hs0) (by assumption) | exact Sees.of (Nat.le_trans hRB hs0) (below_drewN (by assumption) _))
    (first
      | (go_at_call 50; (with_reducible refine (r_mag_c _ b A n c l ?_ ?_).mono ?_); (exact wa); (omega); rintro e w2 ⟨A2, n2, c2, rfl, h2, hb2⟩; replace hb2 := bnext (below_drewN (brefl _) 1) hb2; have r2 := bnext r1 hb2; replace wa := wa.belw hb2; replace wb := wb.belw hb2)
      | (go_at_call 50; (with_reducible refine (r_mag_c _ b' A' n' c' l' ?_ ?_).mono ?_); (exact wb); (omega); rintro e w3 ⟨A3, n3, c3, rfl, h3, hb3⟩; have r3 := bnext r2 hb3; replace wa := wa.belw hb3; replace wb := wb.belw hb3; replace h2 := h2.belw hb3)
      | (go_at_call 49; (with_reducible refine (r_divide_e _ A2 n2 c2 (WD.m ⟨b, l⟩) ?_ ?_ A3 n3 c3 (WD.m ⟨b', l'⟩) ?_ ?_ x y ?_ ?_ ?_).mono ?_); (exact h2); (exact h2.m_len (by rw [← HL.out]; exact hn)); (exact h3); (exact h3.m_len (by rw [← HL'.out]; exact hn')); (exact HX.out.1); (exact HX.out.2); (exact HY.out); rintro e w4 ⟨A4, n4, c4, A5, n5, c5, rfl, h4, h5, hb4⟩; have r4 := bnext r3 hb4; replace wa := wa.belw hb4; replace wb := wb.belw hb4; replace h2 := h2.belw hb4; replace h3 := h3.belw hb4))
  obtain ⟨⟨sc, sf⟩, sr, sz⟩ := Seen.of (by omega) hs0 hm0 r4
  clear hRB
  have hn4 : n4 ≤ 1000000000000 := by
    rw [h4.2.1]; exact dlen (Nat.lt_of_le_of_lt (Nat.div_le_self _ _) (HX.out.1 ▸ h2.vlt (Nat.le_refl _))) (h2.m_len (by rw [← HL.out]; exact hn))
  have hn5 : n5 = 0 := by rw [h5.2.1, HR0.out, digs_zero]; rfl
  subst hn5
  cases sa
  · go_wp2_with (first
      | (go_at_call 51; (with_reducible refine (r_neg_e _ b A n c l false ?_ ?_ ?_).mono ?_); (exact wa); (omega); (exact HS.out.1); rintro e w5 ⟨rfl, hb5⟩; have r5 := bnext r4 hb5; replace wa := wa.belw hb5; replace wb := wb.belw hb5; replace h2 := h2.belw hb5; replace h3 := h3.belw hb5; replace h4 := h4.belw hb5; replace h5 := h5.belw hb5; (try clear sc sf sr sz); obtain ⟨⟨sc, sf⟩, sr, sz⟩ := Seen.of (by omega) hs0 hm0 r5))
    have HZ := Lib.hid (div_plain (sa := false) (sb := sb) (x := x) HY.out (.inr HR0.out))
    (try clear sc sf sr sz)
    have hRB : w.heap.size + 1 + 1 ≤ w.heap.size + 1 + 1 + 1 + 1 := by omega
    go_region_held3 (fun w' => Sees (w.heap.size + 1 + 1) W0 w') (first | exact Sees.of (Nat.le_trans hRB hs0) (by assumption) | exact Sees.of (Nat.le_trans hRB hs0) (below_drewN (by assumption) _) | exact (Sees.set (Sees.of (Nat.le_trans hRB hs0) (by assumption)) (by simp)) | exact (Sees.set (Sees.set (Sees.of (Nat.le_trans hRB hs0) (by assumption)) (by simp)) (by simp)) | exact (Sees.set (Sees.set (Sees.set (Sees.of (Nat.le_trans hRB hs0) (by assumption)) (by simp)) (by simp)) (by simp)) | exact (Sees.set (Sees.set (Sees.set (Sees.set (Sees.of (Nat.le_trans hRB hs0) (by assumption)) (by simp)) (by simp)) (by simp)) (by simp)))
      (first
        | (go_at_call 51; (with_reducible refine (r_neg_e _ b A n c l false ?_ ?_ ?_).mono ?_); (exact wa); (omega); (exact HS.out.1); rintro e w6 ⟨rfl, hb6⟩; replace hb6 := bnext (below_drewN (brefl _) 1) hb6; have r6 := bnext r5 hb6; replace wa := wa.belw hb6; replace wb := wb.belw hb6; replace h2 := h2.belw hb6; replace h3 := h3.belw hb6; replace h4 := h4.belw hb6; replace h5 := h5.belw hb6)
        | (go_at_call 51; (with_reducible refine (r_neg_e _ b' A' n' c' l' sb ?_ ?_ ?_).mono ?_); (exact wb); (omega); (exact HS.out.2); rintro e w7 ⟨rfl, hb7⟩; have r7 := bnext r6 hb7; replace wa := wa.belw hb7; replace wb := wb.belw hb7; replace h2 := h2.belw hb7; replace h3 := h3.belw hb7; replace h4 := h4.belw hb7; replace h5 := h5.belw hb7)
        | (go_at_call 54; (with_reducible refine (r_form_e _ sb A4 n4 c4 (digs (x / y)) (sgn false x / sgn sb y) ?_ ?_ ?_).mono ?_); (exact h4); (omega); (rw [HZ.out.1, val_digs]; cases sb <;> rfl); rintro e w8 ⟨A8, n8, c8, rfl, h8, hb8⟩; have r8 := bnext r7 hb8; replace wa := wa.belw hb8; replace wb := wb.belw hb8; replace h2 := h2.belw hb8; replace h3 := h3.belw hb8; replace h4 := h4.belw hb8; replace h5 := h5.belw hb8)
        | (go_at_call 54; (with_reducible refine (r_form_e _ false A5 0 c5 (digs (x % y)) (sgn false x % sgn sb y) ?_ ?_ ?_).mono ?_); (exact h5); (omega); (rw [HZ.out.2, val_digs]; rfl); rintro e w9 ⟨A9, n9, c9, rfl, h9, hb9⟩; have r9 := bnext r8 hb9; replace wa := wa.belw hb9; replace wb := wb.belw hb9; replace h2 := h2.belw hb9; replace h3 := h3.belw hb9; replace h4 := h4.belw hb9; replace h5 := h5.belw hb9; replace h8 := h8.belw hb9; obtain ⟨⟨sc, sf⟩, sr, sz⟩ := Seen.of (by omega) hs0 hm0 r9))
    clear hRB
    go_wp2_with fail
    refine bodyPost_ret (v := .tuple #[.agg #[.bool _, .slice A8 n8 c8], .agg #[.bool _, .slice A9 n9 c9], .int .i64 0]) (by simp [results, Tryd.results13, go_sem, sr]; first | rfl | exact ⟨rfl, rfl⟩) rfl ?_
    have y2 := x2.below r9
    have y3 := x3.below r9
    refine ⟨A8, n8, c8, A9, n9, c9, rfl, ?_, ?_, ?_⟩
    · exact h8.keep (kp4 y2 y3 (by decide) (by decide) _ _ _ _ _ _ _ _)
    · exact h9.keep (kp4 y2 y3 (by decide) (by decide) _ _ _ _ _ _ _ _)
    · exact ((((b0.trans (r9.mono b0.size)).setCell (by dsimp only; omega) _).setCell (by dsimp only; omega) _).setCell (by dsimp only; omega) _).setCell (by dsimp only; omega) _
  · go_wp2_with (first
      | (go_at_call 51; (with_reducible refine (r_neg_e _ b A n c l true ?_ ?_ ?_).mono ?_); (exact wa); (omega); (exact HS.out.1); rintro e w5 ⟨rfl, hb5⟩; have r5 := bnext r4 hb5; replace wa := wa.belw hb5; replace wb := wb.belw hb5; replace h2 := h2.belw hb5; replace h3 := h3.belw hb5; replace h4 := h4.belw hb5; replace h5 := h5.belw hb5; (try clear sc sf sr sz); obtain ⟨⟨sc, sf⟩, sr, sz⟩ := Seen.of (by omega) hs0 hm0 r5))
    have HZ := Lib.hid (div_plain (sa := true) (sb := sb) (x := x) HY.out (.inr HR0.out))
    (try clear sc sf sr sz)
    have hRB : w.heap.size + 1 + 1 ≤ w.heap.size + 1 + 1 + 1 + 1 := by omega
    go_region_held3 (fun w' => Sees (w.heap.size + 1 + 1) W0 w') (first | exact Sees.of (Nat.le_trans hRB hs0) (by assumption) | exact Sees.of (Nat.le_trans hRB hs0) (below_drewN (by assumption) _) | exact (Sees.set (Sees.of (Nat.le_trans hRB hs0) (by assumption)) (by simp)) | exact (Sees.set (Sees.set (Sees.of (Nat.le_trans hRB hs0) (by assumption)) (by simp)) (by simp)) | exact (Sees.set (Sees.set (Sees.set (Sees.of (Nat.le_trans hRB hs0) (by assumption)) (by simp)) (by simp)) (by simp)) | exact (Sees.set (Sees.set (Sees.set (Sees.set (Sees.of (Nat.le_trans hRB hs0) (by assumption)) (by simp)) (by simp)) (by simp)) (by simp)))
      (first
        | (go_at_call 51; (with_reducible refine (r_neg_e _ b A n c l true ?_ ?_ ?_).mono ?_); (exact wa); (omega); (exact HS.out.1); rintro e w6 ⟨rfl, hb6⟩; replace hb6 := bnext (below_drewN (brefl _) 1) hb6; have r6 := bnext r5 hb6; replace wa := wa.belw hb6; replace wb := wb.belw hb6; replace h2 := h2.belw hb6; replace h3 := h3.belw hb6; replace h4 := h4.belw hb6; replace h5 := h5.belw hb6)
        | (go_at_call 51; (with_reducible refine (r_neg_e _ b' A' n' c' l' sb ?_ ?_ ?_).mono ?_); (exact wb); (omega); (exact HS.out.2); rintro e w7 ⟨rfl, hb7⟩; have r7 := bnext r6 hb7; replace wa := wa.belw hb7; replace wb := wb.belw hb7; replace h2 := h2.belw hb7; replace h3 := h3.belw hb7; replace h4 := h4.belw hb7; replace h5 := h5.belw hb7)
        | (go_at_call 54; (with_reducible refine (r_form_e _ (!sb) A4 n4 c4 (digs (x / y)) (sgn true x / sgn sb y) ?_ ?_ ?_).mono ?_); (exact h4); (omega); (rw [HZ.out.1, val_digs]; cases sb <;> rfl); rintro e w8 ⟨A8, n8, c8, rfl, h8, hb8⟩; have r8 := bnext r7 hb8; replace wa := wa.belw hb8; replace wb := wb.belw hb8; replace h2 := h2.belw hb8; replace h3 := h3.belw hb8; replace h4 := h4.belw hb8; replace h5 := h5.belw hb8)
        | (go_at_call 54; (with_reducible refine (r_form_e _ false A5 0 c5 (digs (x % y)) (sgn true x % sgn sb y) ?_ ?_ ?_).mono ?_); (exact h5); (omega); (rw [HZ.out.2, val_digs]; rfl); rintro e w9 ⟨A9, n9, c9, rfl, h9, hb9⟩; have r9 := bnext r8 hb9; replace wa := wa.belw hb9; replace wb := wb.belw hb9; replace h2 := h2.belw hb9; replace h3 := h3.belw hb9; replace h4 := h4.belw hb9; replace h5 := h5.belw hb9; replace h8 := h8.belw hb9; obtain ⟨⟨sc, sf⟩, sr, sz⟩ := Seen.of (by omega) hs0 hm0 r9))
    clear hRB
    go_wp2_with fail
    refine bodyPost_ret (v := .tuple #[.agg #[.bool _, .slice A8 n8 c8], .agg #[.bool _, .slice A9 n9 c9], .int .i64 0]) (by simp [results, Tryd.results13, go_sem, sr]; first | rfl | exact ⟨rfl, rfl⟩) rfl ?_
    have y2 := x2.below r9
    have y3 := x3.below r9
    refine ⟨A8, n8, c8, A9, n9, c9, rfl, ?_, ?_, ?_⟩
    · exact h8.keep (kp4 y2 y3 (by decide) (by decide) _ _ _ _ _ _ _ _)
    · exact h9.keep (kp4 y2 y3 (by decide) (by decide) _ _ _ _ _ _ _ _)
    · exact ((((b0.trans (r9.mono b0.size)).setCell (by dsimp only; omega) _).setCell (by dsimp only; omega) _).setCell (by dsimp only; omega) _).setCell (by dsimp only; omega) _
theorem r01_div (w : World) (b : Bool) (A : Option Addr) (n c : Nat) (z : Int) (k : Nat) (h : IZ w b A n c z k) (b' : Bool) (A' : Option Addr) (n' c' : Nat) (z' : Int) (k' : Nat) (h' : IZ w b' A' n' c' z' k') (hk : k + k' ≤ 1000000000) (h0 : z' ≠ 0) (hr : z % z' = 0) : Calls Tryd.prog 13 #[.agg #[.bool b, .slice A n c], .agg #[.bool b', .slice A' n' c']] w (RetDv w (.int .i64 0) (z / z') (z % z') (k + k')) := by
  have hz := h.mono (Nat.le_add_right k k') |>.lt
  have hz' := h'.mono (Nat.le_add_left k' k) |>.lt
  obtain ⟨l, h1, rfl, h3⟩ := h
  obtain ⟨l', h1', rfl, h3'⟩ := h'
  refine (r_div_C w b A n c l h1 (by omega) b' A' n' c' l' h1' (by omega) h0 hr).mono fun _ _ r => ?_
  obtain ⟨A1, n1, c1, A2, n2, c2, rfl, r1, r2, r3⟩ := r
  refine ⟨_, A1, n1, c1, _, A2, n2, c2, rfl, IV.mk_ r1 rfl ?_, IV.mk_ r2 rfl ?_, r3⟩
  · exact Nat.lt_of_le_of_lt (Int.natAbs_ediv_le_natAbs _ _) hz
  · have e1 := Int.emod_nonneg (WD.z ⟨b, l⟩) h0
    have e2 := Int.emod_lt (WD.z ⟨b, l⟩) h0
    omega
end Go.Proofs.YtkehcfclggmblaaDoor

/- Walks: quotients by nothing; errors as numbers. -/
namespace Go.Proofs.YtkehcfclggmblaaDoor
open Go Go.RowKit Bn

set_option maxRecDepth 100000 in
set_option maxHeartbeats 2000000 in
/-- integer.Div, the divisor being 0 -/
theorem i_div0 (w : World) (b : Bool) (A : Option Addr) (n c : Nat) (z : Int) (k : Nat) (h : IZ w b A n c z k) (b' : Bool) (A' : Option Addr) (n' c' : Nat) (z' : Int) (k' : Nat) (h' : IZ w b' A' n' c' z' k') (hk : k + k' ≤ 1000000000) (h0 : z' = 0) :
    Calls Tryd.prog 11 #[.agg #[.bool b, .slice A n c], .agg #[.bool b', .slice A' n' c']] w (RetDv w (.iface 50 (.int .i64 8)) 0 0 (k + k')) := by
  obtain ⟨l', wb, hz', hn'⟩ := h'
  have hm : WD.m ⟨b', l'⟩ = [] := by
    have h1 := z_nat ⟨b', l'⟩
    rw [hz', h0] at h1
    exact (val_eq_zero (WD.canon_m wb.1)).1 h1.symm
  have HM := Lib.hid hm
  clear hm hz' h
  have b1 : Below w.heap.size w ((((w.alloc (.cells #[.bool b, .slice A n c] 24)).alloc (.cells #[.bool b', .slice A' n' c'] 24)).alloc (.cells #[.bool false, .slice none 0 0] 24)).alloc (.cells #[.bool false, .slice none 0 0] 24)) := ((((Below.refl _ _).alloc (Nat.le_refl _) _).alloc (by simp) _).alloc (by simp; omega) _).alloc (by simp; omega) _
  have y1 : Blk ((((w.alloc (.cells #[.bool b, .slice A n c] 24)).alloc (.cells #[.bool b', .slice A' n' c'] 24)).alloc (.cells #[.bool false, .slice none 0 0] 24)).alloc (.cells #[.bool false, .slice none 0 0] 24)) (w.heap.size + 1 + 1) 24 #[.bool false, .slice none 0 0] := (blkAt _ _ _ (by simp)).alloc _
  have z1 : Blk ((((w.alloc (.cells #[.bool b, .slice A n c] 24)).alloc (.cells #[.bool b', .slice A' n' c'] 24)).alloc (.cells #[.bool false, .slice none 0 0] 24)).alloc (.cells #[.bool false, .slice none 0 0] 24)) (w.heap.size + 1 + 1 + 1) 24 #[.bool false, .slice none 0 0] := blkAt _ _ _ (by simp)
  go_enter Tryd.func11, Tryd.ntmps11
  go_wp2_with (go_at_call 41; (with_reducible refine (mag_c _ b' A' n' c' l' ?_ ?_).mono ?_); (exact wb.belw b1); (omega); rintro e w2 ⟨A1, n1, c1, rfl, h1, hb2⟩; rw [HM.out] at h1; obtain rfl : n1 = 0 := h1.2.1; have b2 := b1.trans (hb2.mono b1.size); have y2 := y1.below hb2 y1.lt; have z2 := z1.below hb2 z1.lt; obtain ⟨cy0, cy1⟩ := y2.c2; obtain ⟨fy0, fy1⟩ := y2.f2; obtain ⟨cz0, cz1⟩ := z2.c2; obtain ⟨fz0, fz1⟩ := z2.f2; have ly := y2.lt; have lz := z2.lt)
  refine bodyPost_ret (v := .tuple #[.agg #[.bool false, .slice none 0 0], .agg #[.bool false, .slice none 0 0], .iface 50 (.int .i64 8)]) (by simp [results, Tryd.results11, go_sem, *] <;> first | rfl | exact ⟨rfl, rfl⟩) rfl ?_
  exact ⟨_, _, _, _, _, _, _, _, rfl, IV.zero _ _, IV.zero _ _, (((b2.setCell (by dsimp only; omega) _).setCell (by dsimp only; omega) _).setCell (by dsimp only; omega) _).setCell (by dsimp only; omega) _⟩
set_option maxRecDepth 100000 in
set_option maxHeartbeats 2000000 in
/-- linkworkref01.Div, the divisor being 0 -/
theorem r01_div0 (w : World) (b : Bool) (A : Option Addr) (n c : Nat) (z : Int) (k : Nat) (h : IZ w b A n c z k) (b' : Bool) (A' : Option Addr) (n' c' : Nat) (z' : Int) (k' : Nat) (h' : IZ w b' A' n' c' z' k') (hk : k + k' ≤ 1000000000) (h0 : z' = 0) :
    Calls Tryd.prog 13 #[.agg #[.bool b, .slice A n c], .agg #[.bool b', .slice A' n' c']] w (RetDv w (.int .i64 8) 0 0 (k + k')) := by
  obtain ⟨l', wb, hz', hn'⟩ := h'
  have hs : (WD.z ⟨b', l'⟩).sign = 0 := by rw [hz', h0]; rfl
  have HS := Lib.hid hs
  clear hs hz' h
  have b1 : Below w.heap.size w ((((w.alloc (.cells #[.bool b, .slice A n c] 24)).alloc (.cells #[.bool b', .slice A' n' c'] 24)).alloc (.cells #[.bool false, .slice none 0 0] 24)).alloc (.cells #[.bool false, .slice none 0 0] 24)) := ((((Below.refl _ _).alloc (Nat.le_refl _) _).alloc (by simp) _).alloc (by simp; omega) _).alloc (by simp; omega) _
  have y1 : Blk ((((w.alloc (.cells #[.bool b, .slice A n c] 24)).alloc (.cells #[.bool b', .slice A' n' c'] 24)).alloc (.cells #[.bool false, .slice none 0 0] 24)).alloc (.cells #[.bool false, .slice none 0 0] 24)) (w.heap.size + 1 + 1) 24 #[.bool false, .slice none 0 0] := (blkAt _ _ _ (by simp)).alloc _
  have z1 : Blk ((((w.alloc (.cells #[.bool b, .slice A n c] 24)).alloc (.cells #[.bool b', .slice A' n' c'] 24)).alloc (.cells #[.bool false, .slice none 0 0] 24)).alloc (.cells #[.bool false, .slice none 0 0] 24)) (w.heap.size + 1 + 1 + 1) 24 #[.bool false, .slice none 0 0] := blkAt _ _ _ (by simp)
  go_enter Tryd.func13, Tryd.ntmps13
  go_wp2_with (go_at_call 26; (with_reducible refine (r_sign_x _ b' A' n' c' l' 0 ?_ ?_ HS.out).mono ?_); (exact wb.belw b1); (omega); rintro e w2 ⟨rfl, hb2⟩; have b2 := b1.trans (hb2.mono b1.size); have y2 := y1.below hb2 y1.lt; have z2 := z1.below hb2 z1.lt; obtain ⟨cy0, cy1⟩ := y2.c2; obtain ⟨fy0, fy1⟩ := y2.f2; obtain ⟨cz0, cz1⟩ := z2.c2; obtain ⟨fz0, fz1⟩ := z2.f2; have ly := y2.lt; have lz := z2.lt)
  refine bodyPost_ret (v := .tuple #[.agg #[.bool false, .slice none 0 0], .agg #[.bool false, .slice none 0 0], .int .i64 8]) (by simp [results, Tryd.results13, go_sem, *] <;> first | rfl | exact ⟨rfl, rfl⟩) rfl ?_
  exact ⟨_, _, _, _, _, _, _, _, rfl, IV.zero _ _, IV.zero _ _, (((b2.setCell (by dsimp only; omega) _).setCell (by dsimp only; omega) _).setCell (by dsimp only; omega) _).setCell (by dsimp only; omega) _⟩
set_option maxRecDepth 100000 in
set_option maxHeartbeats 1000000 in
/-- linkworkbase.Num -/
theorem b_num_nil (w : World) : Calls Tryd.prog 15 #[.nilIface] w (RetV w (.int .i64 0)) := by
  go_enter Tryd.func15, Tryd.ntmps15
  go_wp2
  go_ret
  exact ⟨rfl, brefl w⟩
theorem run_as_err (x : Int) (w : World) : (Instr.typeAssert (.iface 50 (.int .i64 x)) 28 50 true).run Tryd.prog w = .ok (.tuple #[.int .i64 x, .bool true]) w := by
  simp [Instr.typeAssert, run_underlying Tryd.underlying50]
set_option maxRecDepth 100000 in
set_option maxHeartbeats 1000000 in
theorem b_num_err (w : World) (x : Int) : Calls Tryd.prog 15 #[.iface 50 (.int .i64 x)] w (RetV w (.int .i64 x)) := by
  go_enter Tryd.func15, Tryd.ntmps15
  have hr := run_as_err x
  go_wp2
  go_ret
  exact ⟨rfl, brefl w⟩
set_option maxRecDepth 100000 in
set_option maxHeartbeats 1000000 in
/-- linkworkbase.Is, of the very error -/
theorem b_is (w : World) (x : Int) : Calls Tryd.prog 39 #[.iface 50 (.int .i64 x), .int .i64 x] w (RetV w (.bool true)) := by
  go_enter Tryd.func39, Tryd.ntmps39
  go_wp2_with (go_at_call 15; (with_reducible refine (b_num_err _ x).mono ?_); rintro e w1 ⟨rfl, hb1⟩)
  go_ret
  exact ⟨rfl, hb1⟩
end Go.Proofs.YtkehcfclggmblaaDoor

/- Walks: linkworkref01.Root. -/
namespace Go.Proofs.YtkehcfclggmblaaDoor
open Go Go.RowKit Bn

/-- The root of an integer as the reference finds it, and its error. -/
def rootN (z : Int) : Value := if z < 0 then .int .i64 3 else .int .i64 0
/-- How the root bit by bit stands. -/
def RBitI (M K : Nat) (W0 wr : World) (x iv : Value) : Prop := ∃ A1 n1 c1 R j, x = .slice A1 n1 c1 ∧ iv = .int .i64 ((j : Nat) - 1) ∧ j ≤ K ∧ Kept (Wd wr A1 n1 c1 (digs R) ∧ RootI M R j) ∧ Below W0.heap.size W0 wr
theorem cmpN_le0 {a b : Nat} : (cmpN a b ≤ 0) = (a ≤ b) := by
  unfold cmpN
  apply propext
  (repeat' split) <;> omega
theorem digs_mul_n {w w1 w2 : World} {A : Option Addr} {n c u v : Nat} (h : Wd w A n c (digs (u * v))) {A' : Option Addr} {n' c' : Nat} (h' : Wd w1 A' n' c' (digs u)) {A2 : Option Addr} {n2 c2 : Nat} (h2 : Wd w2 A2 n2 c2 (digs v)) : n ≤ n' + n2 := by
  rw [h.2.1]
  apply length_digs_le
  have h3 := h'.vlt (Nat.le_refl _)
  have h4 := h2.vlt (Nat.le_refl _)
  rw [val_digs] at h3 h4
  rw [Nat.pow_add]
  exact Nat.mul_lt_mul'' h3 h4
theorem r_compare_k (w : World) (A : Option Addr) (n c x : Nat) (wa : Wd w A n c (digs x)) (hn : n ≤ 1099511627776) (A' : Option Addr) (n' c' y : Nat) (wb : Wd w A' n' c' (digs y)) (hn' : n' ≤ 1099511627776) (k : Int) (hk : cmpN x y = k) :
    Calls Tryd.prog 56 #[.slice A n c, .slice A' n' c'] w (RetV w (.int .i64 k)) := by
  have := r_compare_c w A n c (digs x) wa hn A' n' c' (digs y) wb hn'
  rw [val_digs, val_digs, hk] at this
  exact this
theorem r_plus_k (w : World) (A : Option Addr) (n c x : Nat) (wa : Wd w A n c (digs x)) (hn : n ≤ 1099511627776) (A' : Option Addr) (n' c' y : Nat) (wb : Wd w A' n' c' (digs y)) (hn' : n' ≤ 1099511627776) :
    Calls Tryd.prog 52 #[.slice A n c, .slice A' n' c'] w (RetL w (digs (x + y))) := by
  have := r_plus_c w A n c (digs x) wa hn A' n' c' (digs y) wb hn'
  rw [val_digs, val_digs] at this
  exact this
theorem r_times_k (w : World) (A : Option Addr) (n c x : Nat) (wa : Wd w A n c (digs x)) (hn : n ≤ 1099511627776) (A' : Option Addr) (n' c' y : Nat) (wb : Wd w A' n' c' (digs y)) (hn' : n' ≤ 1099511627776) :
    Calls Tryd.prog 57 #[.slice A n c, .slice A' n' c'] w (RetL w (digs (x * y))) := by
  have := r_times_c w A n c (digs x) wa hn A' n' c' (digs y) wb hn'
  rw [val_digs, val_digs] at this
  exact this
set_option maxRecDepth 100000 in
set_option maxHeartbeats 4000000 in
/-- linkworkref01.Root -/
theorem r_root_C (w : World) (b : Bool) (A : Option Addr) (n c : Nat) (l : List Nat) (k : Nat) (wa : Wd w A n c l) (hk : n ≤ k) (hn : k ≤ 1000000000) :
    Calls Tryd.prog 14 #[.agg #[.bool b, .slice A n c]] w (RetIe w (rootN (WD.z ⟨b, l⟩)) (rootZ (WD.z ⟨b, l⟩)) k) := by
  have hzlt : (rootZ (WD.z ⟨b, l⟩)).natAbs < 4294967296 ^ k := root_lt (WD.z_lt wa hk)
  have HL := Lib.hid wa.2.1
  have HZL := Lib.hid hzlt
  have hcm : Canon (WD.m ⟨b, l⟩) := WD.canon_m wa.1
  obtain ⟨M, hM⟩ : ∃ M, WD.m ⟨b, l⟩ = digs M := ⟨_, (digs_val hcm).symm⟩
  have hze := WD.z_eq ⟨b, l⟩
  rw [hM, val_digs] at hze
  obtain ⟨Z, hZ⟩ : ∃ Z, WD.z ⟨b, l⟩ = Z := ⟨_, rfl⟩
  rw [hZ] at hze hzlt ⊢
  have HZ := Lib.hid hZ
  have HM := Lib.hid hM
  have b1 : Below w.heap.size w ((w.alloc (.cells #[.bool b, .slice A n c] 24)).alloc (.cells #[.bool false, .slice none 0 0] 24)) := ((Below.refl _ _).alloc (Nat.le_refl _) _).alloc (by simp) _
  have x1 : Blk ((w.alloc (.cells #[.bool b, .slice A n c] 24)).alloc (.cells #[.bool false, .slice none 0 0] 24)) w.heap.size 24 #[.bool b, .slice A n c] := (blkAt _ _ _ rfl).alloc _
  have y1 : Blk ((w.alloc (.cells #[.bool b, .slice A n c] 24)).alloc (.cells #[.bool false, .slice none 0 0] 24)) (w.heap.size + 1) 24 #[.bool false, .slice none 0 0] := blkAt _ _ _ (by simp)
  clear hzlt hM hcm hZ
  cases hs : WD.s ⟨b, l⟩ with
  | true =>
    have HS := Lib.hid hs
    rw [hs] at hze
    have hMp : 0 < M := by
      rcases Nat.eq_zero_or_pos M with e | e
      · exfalso
        have h1 := HM.out
        rw [e, digs_zero] at h1
        unfold WD.s at hs
        unfold WD.m at h1
        cases ho : WD.ok ⟨b, l⟩
        · rw [ho] at hs; exact absurd hs (by simp)
        · rw [ho] at hs h1
          simp only [if_true] at h1
          simp only [Bool.true_and] at hs
          subst hs
          subst h1
          exact absurd ho (by decide)
      · exact e
    have hZn : Z < 0 := by rw [hze]; simp [sgn]; omega
    have hRE : rootN Z = .int .i64 3 := by unfold rootN; rw [if_pos hZn]
    have hRZ : rootZ Z = 0 := by unfold rootZ; rw [if_pos hZn]
    rw [hRE, hRZ]
    clear hRE hRZ hZn hze hMp hs
    go_enter Tryd.func14, Tryd.ntmps14
    go_wp2_with (go_at_call 51; (with_reducible refine (r_neg_e _ b A n c l true ?_ ?_ HS.out).mono ?_); (exact wa.belw b1); (omega); rintro e w2 ⟨rfl, hb2⟩; have x2 := x1.below hb2 x1.lt; have y2 := y1.below hb2 y1.lt; obtain ⟨cx0, cx1⟩ := x2.c2; obtain ⟨cy0, cy1⟩ := y2.c2; obtain ⟨fy0, fy1⟩ := y2.f2)
    refine bodyPost_ret (v := .tuple #[.agg #[.bool false, .slice none 0 0], .int .i64 3]) (by simp [results, Tryd.results14, go_sem, *] <;> first | rfl | exact ⟨rfl, rfl⟩) rfl ?_
    exact ⟨_, _, _, _, rfl, IV.zero _ _, ((b1.trans (hb2.mono b1.size)).setCell (by dsimp only; omega) _).setCell (by dsimp only; omega) _⟩
  | false =>
    have HS := Lib.hid hs
    rw [hs] at hze
    have hZM : Z = M := by rw [hze]; rfl
    have hZn : ¬ Z < 0 := by omega
    have hRE : rootN Z = .int .i64 0 := by unfold rootN; rw [if_neg hZn]
    have hRZ : rootZ Z = (isq M : Nat) := by unfold rootZ; rw [if_neg hZn, show Z.natAbs = M by omega]
    rw [hRE, hRZ]
    have HR := Lib.hid hRZ
    clear hRE hRZ hZn hze hs
    obtain ⟨N, hN⟩ : ∃ N, blen M = N := ⟨_, rfl⟩
    have hN2 : N ≤ 32 * 1000000000 := by rw [← hN]; exact blen_max (Nat.le_trans hk hn) (by have := WD.z_lt (b := b) wa (Nat.le_refl n); rw [HZ.out, hZM] at this; simpa using this)
    obtain ⟨J, hJ⟩ : ∃ J, N / 2 = J := ⟨_, rfl⟩
    have e3 : (N : Int) / 2 = (J : Int) := by omega
    have HN := Lib.hid hN
    have HJ := Lib.hid hJ
    have hJ2 : J ≤ 16 * 1000000000 := by omega
    clear hN hJ
    go_enter Tryd.func14, Tryd.ntmps14
    go_wp2_with (first
      | (go_at_call 51; (with_reducible refine (r_neg_e _ b A n c l false ?_ ?_ HS.out).mono ?_); (exact wa.belw b1); (omega); rintro e w2 ⟨rfl, hb2⟩; have x2 := x1.below hb2 x1.lt; have y2 := y1.below hb2 y1.lt; have b2 := b1.trans (hb2.mono b1.size); obtain ⟨cx0, cx1⟩ := x2.c2)
      | (go_at_call 50; (with_reducible refine (r_mag_c _ b A n c l ?_ ?_).mono ?_); (exact wa.belw b2); (omega); rintro e w3 ⟨A1, n1, c1, rfl, h1, hb3⟩; have hn1 : n1 ≤ k := h1.m_len (by rw [← HL.out]; exact hk); rw [HM.out] at h1; have b3 := b2.trans (hb3.mono b2.size); have y3 := y2.below hb3 y2.lt)
      | (go_at_call 55; (with_reducible refine (r_bits_x _ A1 n1 c1 (digs M) h1 ?_ (canon_digs _)).mono ?_); (omega); rw [val_digs, HN.out]; rintro e w4 ⟨rfl, hb4⟩; have b4 := b3.trans (hb4.mono b3.size); have y4 := y3.below hb4 y3.lt; have h4 := h1.belw hb4))
    have hat : RBitI M (J + 1) w4 w4 (.slice none 0 0) (.int .i64 (J : Nat)) := ⟨_, _, _, 0, J + 1, rfl, by congr 1; omega, Nat.le_refl _, ⟨by rw [digs_zero]; exact Wd.nil_ _, by rw [← HJ.out]; exact RootI.start (by rw [← HN.out]; exact lt_blen M)⟩, brefl _⟩
    clear cx0 cx1 e3
    go_loopw [5, 6] (fun xv iv wr => RBitI M (J + 1) w4 wr xv iv) (fun _ iv _ => (intOf iv + 1).toNat)
    case atStart => exact hat
    case round =>
      obtain ⟨A5, n5, c5, R, j, rfl, rfl, hj, hK, rr⟩ := hrel
      have h6 := h4.belw rr
      have y6 := y4.below rr y4.lt
      by_cases hj0 : j = 0
      · subst hj0
        have HF := Lib.hid (RootI.fin hK.2)
        have hn5 : n5 ≤ k := digs_n hK.1 (by have := hK.2.1; exact Nat.le_trans (Nat.le_mul_self R) this) h6 hn1
        have HK := Lib.hid hK.1
        clear hK
        go_wp2_with (go_at_call 54; (with_reducible refine (r_form_e _ false A5 n5 c5 (digs R) (isq M : Nat) ?_ ?_ ?_).mono ?_); (exact HK.out); omega; (rw [val_digs, HF.out]; rfl); rintro e w11 ⟨A11, n11, c11, rfl, h12, hb11⟩; have y11 := y6.below hb11 y6.lt; obtain ⟨cy0, cy1⟩ := y11.c2; obtain ⟨fy0, fy1⟩ := y11.f2)
        have bt := (b4.trans (rr.mono b4.size)).trans (hb11.mono (Nat.le_trans b4.size rr.size))
        refine bodyPost_ret (v := .tuple #[.agg #[.bool _, .slice A11 n11 c11], .int .i64 0]) (by simp [results, Tryd.results14, go_sem, *] <;> first | rfl | exact ⟨rfl, rfl⟩) rfl ?_
        refine ⟨_, _, _, _, rfl, (IV.mk_ (h12.keep (kp2 ⟨_, _, y11⟩ (by decide) _ _ _ _)) rfl ?_), (bt.setCell (by dsimp only; omega) _).setCell (by dsimp only; omega) _⟩
        rw [← HR.out, ← HZ.out]
        exact HZL.out
      · obtain ⟨t, rfl⟩ : ∃ t, j = t + 1 := ⟨j - 1, by omega⟩
        obtain ⟨i, hi⟩ : ∃ i, t / 32 = i := ⟨_, rfl⟩
        obtain ⟨s, hs⟩ : ∃ s, t % 32 = s := ⟨_, rfl⟩
        have hs32 : s < 32 := by omega
        have hi2 : i ≤ 500000000 := by omega
        have e2 : ((t + 1 : Nat) : Int) - 1 = (t : Int) := by omega
        have e4 : (t : Int) / 32 = (i : Int) := by omega
        have e5 : (t : Int) % 32 = (s : Int) := by omega
        obtain ⟨X, hX⟩ : ∃ X, R + 2 ^ t = X := ⟨_, rfl⟩
        have hn5 : n5 ≤ k := digs_n hK.1 (by have := hK.2.1; exact Nat.le_trans (Nat.le_mul_self R) this) h6 hn1
        have HI := Lib.hid (And.intro hi hs)
        have HX := Lib.hid hX
        clear hi hs hX hj0
        have b6 : Below wr.heap.size wr (wr.alloc (.cells ((cellsOf (List.replicate (i + 1) 0)).setIfInBounds i (.int .u32 (2 ^ s % 4294967296))) 53)) := (Below.refl _ _).alloc (Nat.le_refl _) _
        have HW6 : Hid (Wd (wr.alloc (.cells ((cellsOf (List.replicate (i + 1) 0)).setIfInBounds i (.int .u32 (2 ^ s % 4294967296))) 53)) (some ⟨wr.heap.size, 0, none⟩) (i + 1) (i + 1) (digs (2 ^ t))) := Lib.hid (by
          obtain ⟨h5, hs6⟩ := root_first HI.out.1 HI.out.2
          have hl6 : (digs (2 ^ t)).length = i + 1 := by rw [← h5]; simp
          have z6 : Blk (wr.alloc (.cells ((cellsOf (List.replicate (i + 1) 0)).setIfInBounds i (.int .u32 (2 ^ s % 4294967296))) 53)) wr.heap.size 53 (cellsOf (digs (2 ^ t))) := by
            rw [← h5, ← cellsOf_set]
            have : (2 ^ s % 4294967296 : Int) = ((2 ^ s : Nat) : Int) := by
              have hh : ((2 : Int) ^ s) = ((2 ^ s : Nat) : Int) := by simp
              rw [hh]
              clear hh
              generalize 2 ^ s = p at hs6 ⊢
              omega
            rw [this]
            exact Blk.new _ _ _
          have w6 := z6.wd_ (canon_digs (2 ^ t)).1
          rw [hl6] at w6
          exact w6)
        obtain ⟨kk, hkk⟩ : ∃ kk, cmpN (X * X) M = kk := ⟨_, rfl⟩
        have HKK := Lib.hid hkk
        by_cases hle : X * X ≤ M
        · have e7 : (kk ≤ 0) = True := by rw [← hkk, cmpN_le0]; simpa using hle
          have HLE := Lib.hid (RootI.yes hK.2 (by rw [HX.out]; exact hle))
          clear hkk hle
          go_wp2_with (first
            | (at_make; refine wpList_make_words _ rfl _ _ rfl _ _ _ _ (i + 1) rfl rfl (by omega) (by omega) (by omega) ?_; have z5 := Blk.new wr 53 (cellsOf (List.replicate (i + 1) 0)); have fz := z5.frozen i; have cz := z5.cell i; rw [cellsOf_get (by simp)] at cz)
            | (go_at_call 52; (with_reducible refine (r_plus_k _ A5 n5 c5 R ?_ ?_ (some ⟨wr.heap.size, 0, none⟩) (i + 1) (i + 1) (2 ^ t) ?_ ?_).mono ?_); (exact hK.1.belw b6); omega; (exact HW6.out); omega; rintro e w7 ⟨A7, n7, c7, rfl, h7, hb7⟩; have hn7 := digs_add_n h7 hK.1 HW6.out; rw [HX.out] at h7; have b7 := b6.trans (hb7.mono b6.size); clear z5 fz cz)
            | (go_at_call 57; (with_reducible refine (r_times_k _ A7 n7 c7 X ?_ ?_ A7 n7 c7 X ?_ ?_).mono ?_); (exact h7); omega; (exact h7); omega; rintro e w8 ⟨A8, n8, c8, rfl, h8, hb8⟩; have hn8 := digs_mul_n h8 h7 h7; have b8 := b7.trans (hb8.mono b7.size); have h7b := h7.belw hb8)
            | (go_at_call 56; (with_reducible refine (r_compare_k _ A8 n8 c8 (X * X) ?_ ?_ A1 n1 c1 M ?_ ?_ kk HKK.out).mono ?_); (exact h8); omega; (exact h6.belw b8); omega; rintro e w9 ⟨rfl, hb9⟩; have b9 := b8.trans (hb9.mono b8.size); have h7c := h7b.belw hb9))
          go_roundw
          case rel => exact ⟨A7, n7, c7, X, t, rfl, by congr 1, by omega, ⟨h7c, by rw [← HX.out]; exact HLE.out⟩, rr.trans (b9.mono rr.size)⟩
          case measure => simp [intOf]
        · have e7 : (kk ≤ 0) = False := by rw [← hkk, cmpN_le0]; simpa using hle
          have HLE := Lib.hid (RootI.no hK.2 (by rw [HX.out]; exact hle))
          clear hkk hle
          go_wp2_with (first
            | (at_make; refine wpList_make_words _ rfl _ _ rfl _ _ _ _ (i + 1) rfl rfl (by omega) (by omega) (by omega) ?_; have z5 := Blk.new wr 53 (cellsOf (List.replicate (i + 1) 0)); have fz := z5.frozen i; have cz := z5.cell i; rw [cellsOf_get (by simp)] at cz)
            | (go_at_call 52; (with_reducible refine (r_plus_k _ A5 n5 c5 R ?_ ?_ (some ⟨wr.heap.size, 0, none⟩) (i + 1) (i + 1) (2 ^ t) ?_ ?_).mono ?_); (exact hK.1.belw b6); omega; (exact HW6.out); omega; rintro e w7 ⟨A7, n7, c7, rfl, h7, hb7⟩; have hn7 := digs_add_n h7 hK.1 HW6.out; rw [HX.out] at h7; have b7 := b6.trans (hb7.mono b6.size); clear z5 fz cz)
            | (go_at_call 57; (with_reducible refine (r_times_k _ A7 n7 c7 X ?_ ?_ A7 n7 c7 X ?_ ?_).mono ?_); (exact h7); omega; (exact h7); omega; rintro e w8 ⟨A8, n8, c8, rfl, h8, hb8⟩; have hn8 := digs_mul_n h8 h7 h7; have b8 := b7.trans (hb8.mono b7.size); have h7b := h7.belw hb8)
            | (go_at_call 56; (with_reducible refine (r_compare_k _ A8 n8 c8 (X * X) ?_ ?_ A1 n1 c1 M ?_ ?_ kk HKK.out).mono ?_); (exact h8); omega; (exact h6.belw b8); omega; rintro e w9 ⟨rfl, hb9⟩; have b9 := b8.trans (hb9.mono b8.size); have h7c := h7b.belw hb9))
          go_roundw
          case rel => exact ⟨A5, n5, c5, R, t, rfl, by congr 1, by omega, ⟨hK.1.belw b9, HLE.out⟩, rr.trans (b9.mono rr.size)⟩
          case measure => simp [intOf]
end Go.Proofs.YtkehcfclggmblaaDoor

/- A region that draws its order, walked operation by operation: what each one leaves stays true. -/
namespace Go.Proofs.YtkehcfclggmblaaDoor
open Go Go.RowKit Bn

theorem count_set_lt {l : List Bool} {i : Nat} (h : l[i]? = some false) : (l.set i true).count false + 1 = l.count false := by
  induction l generalizing i with
  | nil => simp at h
  | cons b l ih =>
    cases i with
    | zero => simp at h; subst h; simp
    | succ i =>
      simp only [List.getElem?_cons_succ] at h
      have := ih h
      simp only [List.set_cons_succ, List.count_cons]
      omega
section
variable {P : Program} {ops : Array Oper} {Q : Exit → Act → World → Prop} {md : Region.Mode}
theorem ready_get {L : Array Bool} {i : Nat} (h : i ∈ Region.ready md ops L) : L.toList[i]? = some false := by
  have h1 := (mem_ready.1 h).1
  rcases Nat.lt_or_ge i L.size with h2 | h2
  · rw [Array.getD_eq_getD_getElem?, Array.getElem?_eq_getElem h2] at h1
    simp only [Option.getD_some] at h1
    rw [Array.getElem?_toList, Array.getElem?_eq_getElem h2, h1]
  · rw [Array.getD_eq_getD_getElem?, Array.getElem?_eq_none h2] at h1; cases h1
theorem wpAny_inv (A : Array Bool → Act → World → Prop)
    (hstep : ∀ L a w i, L.size = ops.size → i ∈ Region.ready md ops L → A L a w → wpOp P ops Q i (A (L.setIfInBounds i true)) a w)
    (hend : ∀ L a w, L.size = ops.size → Region.ready md ops L = [] → A L a w → Q .normal a w) :
    ∀ (fuel : Nat) (L : Array Bool) (a : Act) (w : World), L.size = ops.size → L.toList.count false ≤ fuel → A L a w → wpAny P md ops Q fuel L a w := by
  intro fuel
  induction fuel with
  | zero =>
    intro L a w hs hc hA
    have hr : Region.ready md ops L = [] := by
      cases hr : Region.ready md ops L with
      | nil => rfl
      | cons i r =>
        have h1 := ready_get (md := md) (ops := ops) (L := L) (i := i) (by rw [hr]; simp)
        have h2 := count_set_lt h1
        omega
    exact ⟨hr, hend L a w hs hr hA⟩
  | succ fuel ih =>
    intro L a w hs hc hA
    refine ⟨fun hr => hend L a w hs hr hA, fun i hi => wpOp_mono (fun a' w' h' => ih _ _ _ (by simpa using hs) ?_ h') (hstep L a w i hs hi hA)⟩
    have h2 := count_set_lt (ready_get hi)
    rw [Array.toList_setIfInBounds]
    omega
end
/-- The cells of a block from i on. -/
def setFrom (w : World) (g : Nat) : Nat → List Value → World
  | _, [] => w
  | i, u :: us => setFrom (w.setCell ⟨g, i, none⟩ u) g (i + 1) us
def setL (c : Array Value) : Nat → List Value → Array Value
  | _, [] => c
  | i, u :: us => setL (c.setIfInBounds i u) (i + 1) us
section
variable {g : Nat} {t : TypeId}
theorem setFrom_kp (ht : KT t = false) : ∀ (us : List Value) (i : Nat) (w : World) (c : Array Value), Blk w g t c → Kp w (setFrom w g i us) := by
  intro us
  induction us with
  | nil => intro i w c _; exact Kp.refl w
  | cons u us ih =>
    intro i w c h
    exact ((Kp.refl w).setB (p := ⟨g, i, none⟩) h.box ht u).trans (ih (i + 1) _ _ (h.set_ i u))
theorem setFrom_blk : ∀ (us : List Value) (i : Nat) (w : World) (c : Array Value), Blk w g t c → Blk (setFrom w g i us) g t (setL c i us) := by
  intro us
  induction us with
  | nil => intro i w c h; exact h
  | cons u us ih => intro i w c h; exact ih (i + 1) _ _ (h.set_ i u)
theorem setFrom_far {g' : Nat} {t' : TypeId} {c' : Array Value} (hg : g' ≠ g) : ∀ (us : List Value) (i : Nat) (w : World), Blk w g' t' c' → Blk (setFrom w g i us) g' t' c' := by
  intro us
  induction us with
  | nil => intro i w h; exact h
  | cons u us ih => intro i w h; exact ih (i + 1) _ (h.far hg u)
theorem setFrom_below {B : Nat} {a : World} (hg : B ≤ g) : ∀ (us : List Value) (i : Nat) (w : World), Below B a w → Below B a (setFrom w g i us) := by
  intro us
  induction us with
  | nil => intro i w h; exact h
  | cons u us ih => intro i w h; exact ih (i + 1) _ (h.setCell (p := ⟨g, i, none⟩) hg u)
end
theorem setFrom_size {g : Nat} : ∀ (us : List Value) (i : Nat) (w : World), (setFrom w g i us).heap.size = w.heap.size := by
  intro us
  induction us with
  | nil => intro i w; rfl
  | cons u us ih => intro i w; rw [setFrom, ih]; simp [World.setCell]
/-- A variable that the region makes and stores to. -/
structure Flt where
  a : Nat
  s : Nat
  T : TypeId
  Z : Array Value
  PS : Array Value → World → Prop
/-- A block that was there and that the region may store to (s: the store's number; none: a number beyond the list). -/
structure Own where
  g : Nat
  s : Nat
  o : Nat
  T : TypeId
  Z : Array Value
  PS : Array Value → World → Prop
/-- The assertions and the frame with one more value. -/
def upd (x : Nat → Value) (i : Nat) (v : Value) : Nat → Value := fun j => if j = i then v else x j
theorem upd_same (x : Nat → Value) (i : Nat) (v : Value) : upd x i v i = v := by simp [upd]
theorem upd_ne (x : Nat → Value) {i j : Nat} (v : Value) (h : j ≠ i) : upd x i v j = x j := by simp [upd, h]

def LinA (ops : Array Oper) (fr : (Nat → Value) → Act) (R : Nat → Value → World → Prop) (es : List Flt) (ow : List Own) (B : Nat) (W : World) (L : Array Bool) (a : Act) (w : World) : Prop :=
  ∃ x, a = fr x ∧ (Kp W w ∧ Below B W w) ∧ (∀ i, L.getD i false = true → R i (x i) w) ∧
  (∀ i o, ops[i]? = some o → L.getD i false = true → ∀ e ∈ o.after, Region.binds .any e = true → L.getD e.on false = true) ∧
  (∀ f ∈ es, L.getD f.a false = true → ∃ g c, x f.a = .pointer (some ⟨g, 0, none⟩) ∧ W.heap.size ≤ g ∧ Blk w g f.T c ∧ (L.getD f.s false = false → c = f.Z) ∧ (L.getD f.s false = true → f.PS c w)) ∧
  (∀ f ∈ es, ∀ f' ∈ es, f.a ≠ f'.a → L.getD f.a false = true → L.getD f'.a false = true → x f.a ≠ x f'.a) ∧
  (∀ f ∈ ow, ∃ c, Blk w f.g f.T c ∧ (L.getD f.s false = false → c = f.Z) ∧ (L.getD f.s false = true → f.PS c w))

section
variable (P : Program) (ops : Array Oper) (Q : Exit → Act → World → Prop) (fr : (Nat → Value) → Act) (R : Nat → Value → World → Prop) (es : List Flt) (ow : List Own) (B : Nat) (W : World)
/-- What is to be shown of an operation that yields a value. -/
def ValStep (i : Nat) (o : Oper) : Prop := (∀ f ∈ es, i ≠ f.a ∧ i ≠ f.s) ∧ (∀ f ∈ ow, i ≠ f.s) ∧
  ∀ x w, Kp W w → (∀ f ∈ ow, (∀ o', ops[f.s]? = some o' → ∃ e ∈ o'.after, Region.binds .any e = true ∧ e.on = i) → Blk w f.g f.T f.Z) → (∀ e ∈ o.after, Region.binds .any e = true → R e.on (x e.on) w) → ∀ K' : Act → World → Prop, Shut (∀ v w', R i v w' → Below w.heap.size w w' → K' ((fr x).put o.dst v) w') →
    if Region.wanted o (yielded ops (fr x).tmps) = true then Oper.wp P o (fr x) w K' Q else K' ((fr x).put o.dst undef) w
def AllocStep (i : Nat) (o : Oper) : Prop := ∃ f ∈ es, i = f.a ∧ (∀ f' ∈ es, i ≠ f'.s) ∧ (∀ f' ∈ ow, i ≠ f'.s) ∧ (∀ f' ∈ es, f'.a = i → f' = f) ∧ (∀ v w, R i v w) ∧
  ∀ x w, ∀ K' : Act → World → Prop, Shut (K' ((fr x).put o.dst (.pointer (some ⟨w.heap.size, 0, none⟩))) (w.alloc (.cells f.Z f.T))) →
    if Region.wanted o (yielded ops (fr x).tmps) = true then Oper.wp P o (fr x) w K' Q else K' ((fr x).put o.dst undef) w
def StoreStep (i : Nat) (o : Oper) : Prop := ∃ f ∈ es, i = f.s ∧ (∀ f' ∈ es, i ≠ f'.a) ∧ (∀ f' ∈ ow, i ≠ f'.s) ∧ (∀ f' ∈ es, f'.s = i → f' = f) ∧ (∀ f' ∈ es, f'.a = f.a → f' = f) ∧ KT f.T = false ∧ (∀ v w, R i v w) ∧ (∃ e ∈ o.after, Region.binds .any e = true ∧ e.on = f.a) ∧
  ∀ x w g, x f.a = .pointer (some ⟨g, 0, none⟩) → Blk w g f.T f.Z → (∀ e ∈ o.after, Region.binds .any e = true → R e.on (x e.on) w) →
    ∃ us, (∀ w', Kp w w' → f.PS (setL f.Z 0 us) w') ∧ ∀ K' : Act → World → Prop, Shut (∀ v, K' ((fr x).put o.dst v) (setFrom w g 0 us)) →
      if Region.wanted o (yielded ops (fr x).tmps) = true then Oper.wp P o (fr x) w K' Q else K' ((fr x).put o.dst undef) w
def OwnStep (i : Nat) (o : Oper) : Prop := ∃ f ∈ ow, i = f.s ∧ (∀ f' ∈ es, i ≠ f'.a ∧ i ≠ f'.s) ∧ (∀ f' ∈ ow, f'.s = i → f' = f) ∧ KT f.T = false ∧ (∀ v w, R i v w) ∧
  ∀ x w, Blk w f.g f.T f.Z → (∀ e ∈ o.after, Region.binds .any e = true → R e.on (x e.on) w) →
    ∃ us, (∀ w', Kp w w' → f.PS (setL f.Z f.o us) w') ∧ ∀ K' : Act → World → Prop, Shut (∀ v, K' ((fr x).put o.dst v) (setFrom w f.g f.o us)) →
      if Region.wanted o (yielded ops (fr x).tmps) = true then Oper.wp P o (fr x) w K' Q else K' ((fr x).put o.dst undef) w
end
theorem getD_set {L : Array Bool} {i j : Nat} (hi : i < L.size) : (L.setIfInBounds i true).getD j false = (decide (j = i) || L.getD j false) := by
  rw [Array.getD_eq_getD_getElem?, Array.getD_eq_getD_getElem?, Array.getElem?_setIfInBounds]
  by_cases h : i = j
  · subst h; simp [hi]
  · rw [if_neg h]; simp [show ¬ j = i from fun e => h e.symm]
section
variable {P : Program} {ops : Array Oper} {Q : Exit → Act → World → Prop} {fr : (Nat → Value) → Act} {R : Nat → Value → World → Prop} {es : List Flt} {ow : List Own} {B : Nat}
theorem wp_region_lin {id : Nat} {w : World} {x0 : Nat → Value} (hm : P.follows .mixedOrders = true)
    (hput : ∀ i o, ops[i]? = some o → ∀ x v, (fr x).put o.dst v = fr (upd x i v))
    (hac : ∀ i o, ops[i]? = some o → ∀ e ∈ o.after, Region.binds .any e = true → e.on < i)
    (hR : ∀ i v w w', R i v w → Kp w w' → R i v w')
    (hPS : ∀ f ∈ es, ∀ c w w', f.PS c w → Kp w w' → f.PS c w')
    (hPO : ∀ f ∈ ow, ∀ c w w', f.PS c w → Kp w w' → f.PS c w')
    (hfs : ∀ f ∈ es, f.a < ops.size ∧ f.s < ops.size)
    (hB : B ≤ w.heap.size)
    (hO : ∀ f ∈ ow, Blk w f.g f.T f.Z ∧ B ≤ f.g)
    (hOd : ∀ f ∈ ow, ∀ f' ∈ ow, f.g = f'.g → f = f')
    (hstep : ∀ i o, ops[i]? = some o → ValStep P ops Q fr R es ow w i o ∨ AllocStep P ops Q fr R es ow i o ∨ StoreStep P ops Q fr R es ow i o ∨ OwnStep P ops Q fr R es ow i o)
    (hend : ∀ x w', Kp w w' → Below B w w' → w.heap.size ≤ w'.heap.size → (∀ f ∈ ow, ∃ c, Blk w' f.g f.T c ∧ (ops.size ≤ f.s → c = f.Z) ∧ (f.s < ops.size → f.PS c w')) → (∀ i, i < ops.size → R i (x i) w') → (∀ f ∈ es, ∃ g c, x f.a = .pointer (some ⟨g, 0, none⟩) ∧ w.heap.size ≤ g ∧ Blk w' g f.T c ∧ f.PS c w') → (∀ f ∈ es, ∀ f' ∈ es, f.a ≠ f'.a → x f.a ≠ x f'.a) → Q .normal (fr x) w') :
    (Code.region id ops true).wp P Q (fr x0) w := by
  refine wp_region_any hm (wpAny_inv (fun L a w' => w.heap.size ≤ w'.heap.size ∧ LinA ops fr R es ow B w L a w') ?_ ?_ _ _ _ _ (by simp) ?_ ?_)
  · rintro L a w1 i hs hi ⟨hsz, x, rfl, ⟨hkW, hb⟩, hr, hcl, hf, hd, how⟩
    obtain ⟨hun, o, ho, hall⟩ := mem_ready.1 hi
    have hlt : i < L.size := by
      rcases Nat.lt_or_ge i L.size with h | h
      · exact h
      · rw [Array.getD_eq_getD_getElem?, Array.getElem?_eq_none h] at hun; cases hun
    have hunf : L.getD i false = false := by
      rw [Array.getD_eq_getD_getElem?, Array.getElem?_eq_getElem hlt] at hun ⊢; exact hun
    have hdep : ∀ e ∈ o.after, Region.binds .any e = true → R e.on (x e.on) w1 := fun e he hbd => hr _ (hall e he hbd)
    have hcl' : ∀ i' o', ops[i']? = some o' → (L.setIfInBounds i true).getD i' false = true → ∀ e ∈ o'.after, Region.binds .any e = true → (L.setIfInBounds i true).getD e.on false = true := by
      intro i' o' ho' hl e he hbd
      rw [getD_set hlt] at hl ⊢
      by_cases h : i' = i
      · subst h; rw [ho] at ho'; injection ho' with ho'; subst ho'
        rw [hall e he hbd]; simp
      · have : L.getD i' false = true := by simpa [h] using hl
        rw [hcl i' o' ho' this e he hbd]; simp
    refine wpOp_step ho fun K' hK => ?_
    have hsno : ∀ f ∈ ow, (∀ o', ops[f.s]? = some o' → ∃ e ∈ o'.after, Region.binds .any e = true ∧ e.on = i) → Blk w1 f.g f.T f.Z := by
      intro f hfo hdd
      obtain ⟨c, c1, c2, _⟩ := how f hfo
      have : L.getD f.s false = false := by
        cases h : L.getD f.s false
        · rfl
        · exfalso
          have hlt2 : f.s < ops.size := by
            rcases Nat.lt_or_ge f.s L.size with h2 | h2
            · omega
            · rw [Array.getD_eq_getD_getElem?, Array.getElem?_eq_none h2] at h; cases h
          obtain ⟨e, he, hbd, hea⟩ := hdd _ (Array.getElem?_eq_getElem hlt2)
          have := hcl f.s _ (Array.getElem?_eq_getElem hlt2) h e he hbd
          rw [hea, hunf] at this; cases this
      rw [← c2 this]; exact c1
    have howk : ∀ w', Kp w1 w' → (∀ g t c, Blk w1 g t c → (∃ f ∈ ow, f.g = g) → Blk w' g t c) → (∀ f ∈ ow, i ≠ f.s) → ∀ f ∈ ow, ∃ c, Blk w' f.g f.T c ∧ ((L.setIfInBounds i true).getD f.s false = false → c = f.Z) ∧ ((L.setIfInBounds i true).getD f.s false = true → f.PS c w') := by
      intro w' hkp hbl hne f hfo
      obtain ⟨c, c1, c2, c3⟩ := how f hfo
      have n2 := hne f hfo
      refine ⟨c, hbl _ _ _ c1 ⟨f, hfo, rfl⟩, fun h => c2 ?_, fun h => hPO f hfo _ _ _ (c3 ?_) hkp⟩
      · rw [getD_set hlt] at h; simpa [Ne.symm n2] using h
      · rw [getD_set hlt] at h; simpa [Ne.symm n2] using h
    rcases hstep i o ho with ⟨hno, hnow, hv⟩ | ⟨f, hf1, rfl, hnos, hnow, huniq, hRi, hv⟩ | ⟨f, hf1, rfl, hnoa, hnow, huniq, huniqa, hT, hRi, ⟨e, he, hbd, hea⟩, hv⟩ | ⟨f, hf1, rfl, hnoe, huniq, hT, hRi, hv⟩
    · refine hv x w1 hkW hsno hdep K' (fun v w' hRv hbw => hK _ _ ?_)
      have hkp : Kp w1 w' := (Kp.refl w1).below hbw
      refine ⟨Nat.le_trans hsz hbw.size, upd x i v, hput i o ho x v, ⟨hkW.trans hkp, hb.trans (hbw.mono (Nat.le_trans hB hsz))⟩, fun j hj => ?_, hcl', fun f hfe hfa => ?_, fun f hfe f' hfe' hne h1 h2 => ?_, howk w' hkp (fun g t c h _ => h.below hbw h.lt) hnow⟩
      · by_cases h : j = i
        · subst h; rw [upd_same]; exact hRv
        · rw [upd_ne _ _ h]; rw [getD_set hlt] at hj; exact hR _ _ _ _ (hr j (by simpa [h] using hj)) hkp
      · rw [getD_set hlt] at hfa
        have n1 := (hno f hfe).1
        have n2 := (hno f hfe).2
        rw [upd_ne _ _ (Ne.symm n1)]
        obtain ⟨g, c, e1, e2, e3, e4, e5⟩ := hf f hfe (by simpa [Ne.symm n1] using hfa)
        refine ⟨g, c, e1, e2, e3.below hbw e3.lt, fun h => e4 ?_, fun h => hPS f hfe _ _ _ (e5 ?_) hkp⟩
        · rw [getD_set hlt] at h; simpa [Ne.symm n2] using h
        · rw [getD_set hlt] at h; simpa [Ne.symm n2] using h
      · rw [getD_set hlt] at h1 h2
        have n1 := (hno f hfe).1
        have n2 := (hno f' hfe').1
        rw [upd_ne _ _ (Ne.symm n1), upd_ne _ _ (Ne.symm n2)]
        exact hd f hfe f' hfe' hne (by simpa [Ne.symm n1] using h1) (by simpa [Ne.symm n2] using h2)
    · refine hv x w1 K' (hK _ _ ?_)
      have hkp : Kp w1 (w1.alloc (.cells f.Z f.T)) := (Kp.refl w1).alloc _
      have hsl : L.getD f.s false = false := by
        cases h : L.getD f.s false
        · rfl
        · exfalso
          obtain ⟨o', ho'⟩ : ∃ o', ops[f.s]? = some o' := ⟨_, Array.getElem?_eq_getElem (hfs f hf1).2⟩
          rcases hstep f.s o' ho' with ⟨hno, _⟩ | ⟨f2, hf2, e2, hnos2, _⟩ | ⟨f2, hf2, e2, _, _, hu2, _, _, _, ⟨e, he, hbd, hea⟩, _⟩ | ⟨f2, hf2, e2, hno2, _⟩
          · exact (hno f hf1).2 rfl
          · exact hnos2 f hf1 rfl
          · have := hu2 f hf1 rfl
            subst this
            have := hcl f.s o' ho' h e he hbd
            rw [hea] at this
            rw [this] at hunf; cases hunf
          · exact (hno2 f hf1).2 rfl
      refine ⟨by simp; omega, upd x f.a _, hput f.a o ho x _, ⟨hkW.alloc _, hb.alloc (Nat.le_trans hB hsz) _⟩, fun j hj => ?_, hcl', fun f' hfe hfa => ?_, fun f1 hfe f2 hfe' hne h1 h2 => ?_, howk _ hkp (fun g t c h _ => h.alloc _) hnow⟩
      · by_cases h : j = f.a
        · subst h; exact hRi _ _
        · rw [upd_ne _ _ h]; rw [getD_set hlt] at hj; exact hR _ _ _ _ (hr j (by simpa [h] using hj)) hkp
      · by_cases h : f'.a = f.a
        · have := huniq f' hfe h
          subst this
          rw [upd_same]
          refine ⟨_, _, rfl, hsz, Blk.new _ _ _, fun _ => rfl, fun h' => ?_⟩
          rw [getD_set hlt, hsl] at h'
          have : f'.s = f'.a := by simpa using h'
          exact absurd this.symm (hnos f' hfe)
        · rw [upd_ne _ _ h]
          rw [getD_set hlt] at hfa
          have n2 := hnos f' hfe
          obtain ⟨g, c, e1, e2, e3, e4, e5⟩ := hf f' hfe (by simpa [h] using hfa)
          refine ⟨g, c, e1, e2, e3.alloc _, fun h => e4 ?_, fun h => hPS f' hfe _ _ _ (e5 ?_) hkp⟩
          · rw [getD_set hlt] at h; simpa [Ne.symm n2] using h
          · rw [getD_set hlt] at h; simpa [Ne.symm n2] using h
      · rw [getD_set hlt] at h1 h2
        have fresh : ∀ f3 ∈ es, f3.a ≠ f.a → L.getD f3.a false = true → x f3.a ≠ .pointer (some ⟨w1.heap.size, 0, none⟩) := by
          intro f3 h3 hne3 hl3 heq
          obtain ⟨g, c, e1, e2, e3, _⟩ := hf f3 h3 hl3
          rw [e1] at heq
          have hg := e3.lt
          injection heq with heq; injection heq with heq; injection heq with heq
          omega
        by_cases c1 : f1.a = f.a
        · have c2 : f2.a ≠ f.a := fun h => hne (c1.trans h.symm)
          rw [c1, upd_same, upd_ne _ _ c2]
          exact (fresh f2 hfe' c2 (by simpa [c2] using h2)).symm
        · rw [upd_ne _ _ c1]
          by_cases c2 : f2.a = f.a
          · rw [c2, upd_same]; exact fresh f1 hfe c1 (by simpa [c1] using h1)
          · rw [upd_ne _ _ c2]; exact hd f1 hfe f2 hfe' hne (by simpa [c1] using h1) (by simpa [c2] using h2)
    · have hal : L.getD f.a false = true := by rw [← hea]; exact hall e he hbd
      obtain ⟨g, c, e1, e2, e3, e4, e5⟩ := hf f hf1 hal
      have hc := e4 hunf
      subst hc
      obtain ⟨us, hus, hv⟩ := hv x w1 g e1 e3 hdep
      refine hv K' (fun v => hK _ _ ?_)
      have hkp : Kp w1 (setFrom w1 g 0 us) := setFrom_kp hT us 0 w1 _ e3
      have hnb : ∀ f3 ∈ es, f3.a ≠ f.s := fun f3 h3 h => hnoa f3 h3 h.symm
      refine ⟨Nat.le_trans hsz (Nat.le_of_eq (setFrom_size us 0 w1).symm), upd x f.s v, hput f.s o ho x v, ⟨hkW.trans hkp, setFrom_below (Nat.le_trans hB e2) us 0 w1 hb⟩, fun j hj => ?_, hcl', fun f' hfe hfa => ?_, fun f1 hfe f2 hfe' hne h1 h2 => ?_, howk _ hkp (fun g2 t c h hex => setFrom_far (by obtain ⟨f2, h2, rfl⟩ := hex; have := (hO f2 h2).1.lt; omega) us 0 w1 h) hnow⟩
      · by_cases h : j = f.s
        · subst h; exact hRi _ _
        · rw [upd_ne _ _ h]; rw [getD_set hlt] at hj; exact hR _ _ _ _ (hr j (by simpa [h] using hj)) hkp
      · rw [upd_ne _ _ (hnb f' hfe)]
        rw [getD_set hlt] at hfa
        by_cases h : f'.a = f.a
        · have := huniqa f' hfe h
          subst this
          refine ⟨g, _, e1, e2, setFrom_blk us 0 w1 _ e3, fun h' => ?_, fun _ => hus _ hkp⟩
          rw [getD_set hlt] at h'; simp at h'
        · have n2 : f'.s ≠ f.s := fun h2 => h (by rw [huniq f' hfe h2])
          obtain ⟨g', c', d1, d2, d3, d4, d5⟩ := hf f' hfe (by simpa [hnb f' hfe] using hfa)
          have hgg : g' ≠ g := by
            rintro rfl
            exact hd f' hfe f hf1 h (by simpa [hnb f' hfe] using hfa) hal (d1.trans e1.symm)
          refine ⟨g', c', d1, d2, setFrom_far hgg us 0 w1 d3, fun h => d4 ?_, fun h => hPS f' hfe _ _ _ (d5 ?_) hkp⟩
          · rw [getD_set hlt] at h; simpa [n2] using h
          · rw [getD_set hlt] at h; simpa [n2] using h
      · rw [getD_set hlt] at h1 h2
        rw [upd_ne _ _ (hnb f1 hfe), upd_ne _ _ (hnb f2 hfe')]
        exact hd f1 hfe f2 hfe' hne (by simpa [hnb f1 hfe] using h1) (by simpa [hnb f2 hfe'] using h2)
    · obtain ⟨c, c1, c2, _⟩ := how f hf1
      have hc := c2 hunf
      subst hc
      obtain ⟨us, hus, hv⟩ := hv x w1 c1 hdep
      refine hv K' (fun v => hK _ _ ?_)
      have hkp : Kp w1 (setFrom w1 f.g f.o us) := setFrom_kp hT us f.o w1 _ c1
      have hna : ∀ f3 ∈ es, f3.a ≠ f.s := fun f3 h3 h => (hnoe f3 h3).1 h.symm
      have hns : ∀ f3 ∈ es, f3.s ≠ f.s := fun f3 h3 h => (hnoe f3 h3).2 h.symm
      have hgl := (hO f hf1).1.lt
      refine ⟨Nat.le_trans hsz (Nat.le_of_eq (setFrom_size us f.o w1).symm), upd x f.s v, hput f.s o ho x v, ⟨hkW.trans hkp, setFrom_below (hO f hf1).2 us f.o w1 hb⟩, fun j hj => ?_, hcl', fun f' hfe hfa => ?_, fun f1 hfe f2 hfe' hne h1 h2 => ?_, fun f' hfo => ?_⟩
      · by_cases h : j = f.s
        · subst h; exact hRi _ _
        · rw [upd_ne _ _ h]; rw [getD_set hlt] at hj; exact hR _ _ _ _ (hr j (by simpa [h] using hj)) hkp
      · rw [upd_ne _ _ (hna f' hfe)]
        rw [getD_set hlt] at hfa
        have n2 := hns f' hfe
        obtain ⟨g', c', d1, d2, d3, d4, d5⟩ := hf f' hfe (by simpa [hna f' hfe] using hfa)
        refine ⟨g', c', d1, d2, setFrom_far (by omega) us f.o w1 d3, fun h => d4 ?_, fun h => hPS f' hfe _ _ _ (d5 ?_) hkp⟩
        · rw [getD_set hlt] at h; simpa [n2] using h
        · rw [getD_set hlt] at h; simpa [n2] using h
      · rw [getD_set hlt] at h1 h2
        rw [upd_ne _ _ (hna f1 hfe), upd_ne _ _ (hna f2 hfe')]
        exact hd f1 hfe f2 hfe' hne (by simpa [hna f1 hfe] using h1) (by simpa [hna f2 hfe'] using h2)
      · by_cases h : f'.s = f.s
        · have := huniq f' hfo h
          subst this
          refine ⟨_, setFrom_blk us f'.o w1 _ c1, fun h' => ?_, fun _ => hus _ hkp⟩
          rw [getD_set hlt] at h'; simp at h'
        · obtain ⟨c', d3, d4, d5⟩ := how f' hfo
          have hgg : f'.g ≠ f.g := fun h2 => h (by rw [hOd f' hfo f hf1 h2])
          refine ⟨c', setFrom_far hgg us f.o w1 d3, fun h2 => d4 ?_, fun h2 => hPO f' hfo _ _ _ (d5 ?_) hkp⟩
          · rw [getD_set hlt] at h2; simpa [h] using h2
          · rw [getD_set hlt] at h2; simpa [h] using h2
  · rintro L a w1 hs hr0 ⟨hsz, x, rfl, ⟨hkW, hb⟩, hr, hcl, hf, hd, how⟩
    have hallL : ∀ i, i < ops.size → L.getD i false = true := by
      intro i
      induction i using Nat.strongRecOn with
      | ind i ih =>
        intro hi
        cases h : L.getD i false
        · exfalso
          have : i ∈ Region.ready .any ops L := by
            refine mem_ready.2 ⟨?_, ops[i], Array.getElem?_eq_getElem hi, fun e he hbd => ?_⟩
            · rw [Array.getD_eq_getD_getElem?, Array.getElem?_eq_getElem (by omega)] at h ⊢; exact h
            · have h1 := hac i _ (Array.getElem?_eq_getElem hi) e he hbd
              exact ih e.on h1 (by omega)
          rw [hr0] at this; cases this
        · rfl
    refine hend x w1 hkW hb hsz (fun f hfo => ?_) (fun i hi => hr i (hallL i hi)) (fun f hfe => ?_) (fun f hfe f' hfe' hne => hd f hfe f' hfe' hne (hallL _ (hfs f hfe).1) (hallL _ (hfs f' hfe').1))
    · obtain ⟨c, c1, c2, c3⟩ := how f hfo
      refine ⟨c, c1, fun h => c2 ?_, fun h => c3 (hallL _ h)⟩
      rw [Array.getD_eq_getD_getElem?, Array.getElem?_eq_none (by omega)]; rfl
    obtain ⟨g, c, e1, e2, e3, _, e5⟩ := hf f hfe (hallL _ (hfs f hfe).1)
    exact ⟨g, c, e1, e2, e3, e5 (hallL _ (hfs f hfe).2)⟩
  · simp
  · have hz : ∀ j, (Array.replicate ops.size false).getD j false = false := by
      intro j; rw [Array.getD_eq_getD_getElem?, Array.getElem?_replicate]; split <;> rfl
    refine ⟨Nat.le_refl _, x0, rfl, ⟨(Kp.refl w).drew, (Below.refl B w).drew⟩, fun i h => ?_, fun i o _ h => ?_, fun f _ h => ?_, fun f _ f' _ _ h => ?_, fun f hfo => ⟨_, (hO f hfo).1.drew, fun _ => rfl, fun h => ?_⟩⟩ <;> rw [hz] at h <;> cases h
end

theorem ownDist {ow : List Own} (h : ow.Pairwise (fun f f' => f.g ≠ f'.g)) : ∀ f ∈ ow, ∀ f' ∈ ow, f.g = f'.g → f = f' := by
  induction ow with
  | nil => intro f hf; cases hf
  | cons a l ih =>
    obtain ⟨h1, h2⟩ := List.pairwise_cons.1 h
    intro f hf f' hf' he
    rcases List.mem_cons.1 hf with h3 | h3
    · rcases List.mem_cons.1 hf' with h4 | h4
      · rw [h3, h4]
      · exact absurd (h3 ▸ he) (h1 _ h4)
    · rcases List.mem_cons.1 hf' with h4 | h4
      · exact absurd (h4 ▸ he).symm (h1 _ h3)
      · exact ih h2 f h3 f' h4 he
/-- Each operation of a list, with its number. -/
def EachFrom (S : Nat → Oper → Prop) : Nat → List Oper → Prop
  | _, [] => True
  | k, o :: l => S k o ∧ EachFrom S (k + 1) l
theorem each_from {S : Nat → Oper → Prop} : ∀ (l : List Oper) (k : Nat), EachFrom S k l → ∀ i o, l[i]? = some o → S (k + i) o := by
  intro l
  induction l with
  | nil => intro k _ i o h; simp at h
  | cons a l ih =>
    intro k h i o ho
    cases i with
    | zero => simp at ho; subst ho; exact h.1
    | succ i =>
      have := ih (k + 1) h.2 i o (by simpa using ho)
      rw [show k + (i + 1) = k + 1 + i by omega]; exact this
theorem each_of {S : Nat → Oper → Prop} {l : List Oper} (h : EachFrom S 0 l) : ∀ i o, (l.toArray)[i]? = some o → S i o := fun i o ho => by
  have := each_from l 0 h i o (by simpa using ho)
  rwa [Nat.zero_add] at this
def acycB : Nat → List Oper → Bool
  | _, [] => true
  | k, o :: l => o.after.all (fun e => !Region.binds .any e || decide (e.on < k)) && acycB (k + 1) l
theorem acyc_from : ∀ (l : List Oper) (k : Nat), acycB k l = true → EachFrom (fun i o => ∀ e ∈ o.after, Region.binds .any e = true → e.on < i) k l := by
  intro l
  induction l with
  | nil => intro k _; trivial
  | cons a l ih =>
    intro k h
    simp only [acycB, Bool.and_eq_true] at h
    refine ⟨fun e he hb => ?_, ih _ h.2⟩
    have := (Array.all_eq_true_iff_forall_mem.1 h.1) e he
    rw [hb] at this
    simpa using this
/-- Assertions that stay true. -/
def Stab (p : Value → World → Prop) : Prop := ∀ v w w', p v w → Kp w w' → p v w'
def AllStab : List (Value → World → Prop) → Prop
  | [] => True
  | p :: l => Stab p ∧ AllStab l
theorem AllStab.get : ∀ (l : List (Value → World → Prop)), AllStab l → ∀ i v w w', l.getD i (fun _ _ => True) v w → Kp w w' → l.getD i (fun _ _ => True) v w' := by
  intro l
  induction l with
  | nil => intro _ i v w w' _ _; simp
  | cons p l ih =>
    intro h i v w w' hp hk
    cases i with
    | zero => exact h.1 v w w' hp hk
    | succ i => exact ih h.2 i v w w' hp hk
def PEq (u : Value) : Value → World → Prop := fun v _ => v = u
def PAny : Value → World → Prop := fun _ _ => True
def VI (z : Int) (k : Nat) : Value → World → Prop := fun v w => ∃ b A n c, v = .agg #[.bool b, .slice A n c] ∧ IV w b A n c z k
def VQ (q : Rat) (k : Nat) : Value → World → Prop := fun v w => ∃ b A n c D m e, v = .agg #[.bool b, .slice A n c, .slice D m e] ∧ QV w b A n c D m e q k
theorem stEq (u : Value) : Stab (PEq u) := fun _ _ _ h _ => h
theorem stAny : Stab PAny := fun _ _ _ h _ => h
theorem stI (z : Int) (k : Nat) : Stab (VI z k) := fun _ _ _ ⟨b, A, n, c, e, h⟩ hk => ⟨b, A, n, c, e, h.keep hk⟩
theorem stQ (q : Rat) (k : Nat) : Stab (VQ q k) := fun _ _ _ ⟨b, A, n, c, D, m, e, h0, h⟩ hk => ⟨b, A, n, c, D, m, e, h0, h.keep hk⟩
/-- What a block holds. -/
def CQ (q : Rat) (k : Nat) : Array Value → World → Prop := fun v w => ∃ b A n c D m e, v = #[.bool b, .slice A n c, .slice D m e] ∧ QV w b A n c D m e q k
def CI (z : Int) (k : Nat) : Array Value → World → Prop := fun v w => ∃ b A n c, v = #[.bool b, .slice A n c] ∧ IV w b A n c z k
theorem scI (z : Int) (k : Nat) : ∀ c w w', CI z k c w → Kp w w' → CI z k c w' := fun _ _ _ ⟨b, A, n, c, h0, h⟩ hk => ⟨b, A, n, c, h0, h.keep hk⟩
def CAny : Array Value → World → Prop := fun _ _ => True
theorem scAny : ∀ c w w', CAny c w → Kp w w' → CAny c w' := fun _ _ _ h _ => h
theorem scQ (q : Rat) (k : Nat) : ∀ c w w', CQ q k c w → Kp w w' → CQ q k c w' := fun _ _ _ ⟨b, A, n, c, D, m, e, h0, h⟩ hk => ⟨b, A, n, c, D, m, e, h0, h.keep hk⟩
/-- A list of words. -/
def VL (l : List Nat) (k : Nat) : Value → World → Prop := fun v w => ∃ A n c, v = .slice A n c ∧ Wd w A n c l ∧ n ≤ k
theorem stL (l : List Nat) (k : Nat) : Stab (VL l k) := fun _ _ _ ⟨A, n, c, e, h, hn⟩ hk => ⟨A, n, c, e, h.keep hk, hn⟩
end Go.Proofs.YtkehcfclggmblaaDoor

/- A region that draws its order and stores to nothing: slots that it writes may be read ahead of that. -/
namespace Go.Proofs.YtkehcfclggmblaaDoor
open Go Go.RowKit Bn
/-- How such a region stands. -/
def LinV (ops : Array Oper) (fr : (Nat → Value) → Act) (R : Nat → Value → World → Prop) (ow : List Own) (B : Nat) (W : World) (x0 : Nat → Value) (L : Array Bool) (a : Act) (w : World) : Prop :=
  ∃ x, a = fr x ∧ (Kp W w ∧ Below B W w) ∧ (∀ i, L.getD i false = true → R i (x i) w) ∧ (∀ i, L.getD i false = false → x i = x0 i) ∧
  (∀ i o, ops[i]? = some o → L.getD i false = true → ∀ e ∈ o.after, Region.binds .any e = true → L.getD e.on false = true) ∧
  (∀ f ∈ ow, Blk w f.g f.T f.Z)
theorem wp_region_val {P : Program} {ops : Array Oper} {Q : Exit → Act → World → Prop} {fr : (Nat → Value) → Act} {R : Nat → Value → World → Prop} {ow : List Own} {B : Nat} {id : Nat} {w : World} {x0 : Nat → Value} (hm : P.follows .mixedOrders = true)
    (hput : ∀ i o, ops[i]? = some o → ∀ x v, (fr x).put o.dst v = fr (upd x i v))
    (hac : ∀ i o, ops[i]? = some o → ∀ e ∈ o.after, Region.binds .any e = true → e.on < i)
    (hR : ∀ i v w w', R i v w → Kp w w' → R i v w')
    (hB : B ≤ w.heap.size)
    (hO : ∀ f ∈ ow, Blk w f.g f.T f.Z)
    (hstep : ∀ i o, ops[i]? = some o → ∀ x wq, Kp w wq → (∀ f ∈ ow, Blk wq f.g f.T f.Z) → (∀ e ∈ o.after, Region.binds .any e = true → R e.on (x e.on) wq) →
      (∀ j o', ops[j]? = some o' → (∃ e ∈ o'.after, Region.binds .any e = true ∧ e.on = i) → x j = x0 j) → ∀ K' : Act → World → Prop, Shut (∀ v w', R i v w' → Below wq.heap.size wq w' → K' ((fr x).put o.dst v) w') →
      if Region.wanted o (yielded ops (fr x).tmps) = true then Oper.wp P o (fr x) wq K' Q else K' ((fr x).put o.dst undef) wq)
    (hend : ∀ x w', Kp w w' → Below B w w' → w.heap.size ≤ w'.heap.size → (∀ f ∈ ow, Blk w' f.g f.T f.Z) → (∀ i, i < ops.size → R i (x i) w') → Q .normal (fr x) w') :
    (Code.region id ops true).wp P Q (fr x0) w := by
  refine wp_region_any hm (wpAny_inv (fun L a w' => w.heap.size ≤ w'.heap.size ∧ LinV ops fr R ow B w x0 L a w') ?_ ?_ _ _ _ _ (by simp) ?_ ?_)
  · rintro L a w1 i hs hi ⟨hsz, x, rfl, ⟨hkW, hb⟩, hr, hx0, hcl, how⟩
    obtain ⟨hun, o, ho, hall⟩ := mem_ready.1 hi
    have hlt : i < L.size := by
      rcases Nat.lt_or_ge i L.size with h | h
      · exact h
      · rw [Array.getD_eq_getD_getElem?, Array.getElem?_eq_none h] at hun; cases hun
    have hunf : L.getD i false = false := by
      rw [Array.getD_eq_getD_getElem?, Array.getElem?_eq_getElem hlt] at hun ⊢; exact hun
    have hdep : ∀ e ∈ o.after, Region.binds .any e = true → R e.on (x e.on) w1 := fun e he hbd => hr _ (hall e he hbd)
    have hcl' : ∀ i' o', ops[i']? = some o' → (L.setIfInBounds i true).getD i' false = true → ∀ e ∈ o'.after, Region.binds .any e = true → (L.setIfInBounds i true).getD e.on false = true := by
      intro i' o' ho' hl e he hbd
      rw [getD_set hlt] at hl ⊢
      by_cases h : i' = i
      · subst h; rw [ho] at ho'; injection ho' with ho'; subst ho'
        rw [hall e he hbd]; simp
      · have : L.getD i' false = true := by simpa [h] using hl
        rw [hcl i' o' ho' this e he hbd]; simp
    have hlate : ∀ j o', ops[j]? = some o' → (∃ e ∈ o'.after, Region.binds .any e = true ∧ e.on = i) → x j = x0 j := by
      intro j o' ho' ⟨e, he, hbd, hea⟩
      apply hx0
      cases h : L.getD j false
      · rfl
      · have := hcl j o' ho' h e he hbd
        rw [hea, hunf] at this; cases this
    refine wpOp_step ho fun K' hK => ?_
    refine hstep i o ho x w1 hkW how hdep hlate K' (fun v w' hRv hbw => hK _ _ ?_)
    have hkp : Kp w1 w' := (Kp.refl w1).below hbw
    refine ⟨Nat.le_trans hsz hbw.size, upd x i v, hput i o ho x v, ⟨hkW.trans hkp, hb.trans (hbw.mono (Nat.le_trans hB hsz))⟩, fun j hj => ?_, fun j hj => ?_, hcl', fun f hfo => (how f hfo).below hbw (how f hfo).lt⟩
    · by_cases h : j = i
      · subst h; rw [upd_same]; exact hRv
      · rw [upd_ne _ _ h]; rw [getD_set hlt] at hj; exact hR _ _ _ _ (hr j (by simpa [h] using hj)) hkp
    · rw [getD_set hlt] at hj
      by_cases h : j = i
      · subst h; simp at hj
      · rw [upd_ne _ _ h]; exact hx0 j (by simpa [h] using hj)
  · rintro L a w1 hs hr0 ⟨hsz, x, rfl, ⟨hkW, hb⟩, hr, hx0, hcl, how⟩
    have hallL : ∀ i, i < ops.size → L.getD i false = true := by
      intro i
      induction i using Nat.strongRecOn with
      | ind i ih =>
        intro hi
        cases h : L.getD i false
        · exfalso
          have : i ∈ Region.ready .any ops L := by
            refine mem_ready.2 ⟨?_, ops[i], Array.getElem?_eq_getElem hi, fun e he hbd => ?_⟩
            · rw [Array.getD_eq_getD_getElem?, Array.getElem?_eq_getElem (by omega)] at h ⊢; exact h
            · have h1 := hac i _ (Array.getElem?_eq_getElem hi) e he hbd
              exact ih e.on h1 (by omega)
          rw [hr0] at this; cases this
        · rfl
    exact hend x w1 hkW hb hsz how (fun i hi => hr i (hallL i hi))
  · simp
  · have hz : ∀ j, (Array.replicate ops.size false).getD j false = false := by
      intro j; rw [Array.getD_eq_getD_getElem?, Array.getElem?_replicate]; split <;> rfl
    refine ⟨Nat.le_refl _, x0, rfl, ⟨(Kp.refl w).drew, (Below.refl B w).drew⟩, fun i h => ?_, fun i _ => rfl, fun i o _ h => ?_, fun f hfo => (hO f hfo).drew⟩ <;> rw [hz] at h <;> cases h
end Go.Proofs.YtkehcfclggmblaaDoor

/- Walks: the reference's Div where the rest is not 0. -/
namespace Go.Proofs.YtkehcfclggmblaaDoor
open Go Go.RowKit Bn
attribute [local go_sem ↓] Go.wp_at_zero Go.wp_at_succ
set_option maxRecDepth 100000 in
set_option maxHeartbeats 4000000 in
/-- linkworkref01.Div -/
theorem r_div_R (w : World) (b : Bool) (A : Option Addr) (n c : Nat) (l : List Nat) (wa : Wd w A n c l) (hn : n ≤ 1000000000000) (b' : Bool) (A' : Option Addr) (n' c' : Nat) (l' : List Nat) (wb : Wd w A' n' c' l') (hn' : n' ≤ 1000000000000) (h0 : WD.z ⟨b', l'⟩ ≠ 0) (hr0 : WD.z ⟨b, l⟩ % WD.z ⟨b', l'⟩ ≠ 0) :
    Calls Tryd.prog 13 #[.agg #[.bool b, .slice A n c], .agg #[.bool b', .slice A' n' c']] w (RetDivR w (WD.z ⟨b, l⟩ / WD.z ⟨b', l'⟩) (WD.z ⟨b, l⟩ % WD.z ⟨b', l'⟩)) := by
  have HL := Lib.hid wa.2.1
  have HL' := Lib.hid wb.2.1
  obtain ⟨s0, hs0'⟩ : ∃ s, (WD.z ⟨b', l'⟩).sign = s := ⟨_, rfl⟩
  have es0 : ((s0 : Int) == 0) = false := by simp; rintro rfl; exact h0 (Int.sign_eq_zero_iff_zero.1 hs0')
  have HSG := Lib.hid hs0'
  clear hs0'
  have hd0 : val (WD.m ⟨b, l⟩) % val (WD.m ⟨b', l'⟩) ≠ 0 := by
    rw [← z_nat ⟨b, l⟩, ← z_nat ⟨b', l'⟩]
    exact fun e => hr0 (Int.emod_eq_zero_of_dvd (Int.natAbs_dvd_natAbs.1 (Nat.dvd_of_mod_eq_zero e)))
  rw [WD.z_eq] at h0 ⊢
  rw [WD.z_eq ⟨b', l'⟩]
  have hv2 : val (WD.m ⟨b', l'⟩) ≠ 0 := by intro e; rw [e] at h0; exact h0 (by cases (WD.s ⟨b', l'⟩) <;> rfl)
  obtain ⟨sa, hsa⟩ : ∃ s, WD.s ⟨b, l⟩ = s := ⟨_, rfl⟩
  obtain ⟨sb, hsb⟩ : ∃ s, WD.s ⟨b', l'⟩ = s := ⟨_, rfl⟩
  rw [hsa, hsb]
  obtain ⟨x, hx⟩ : ∃ x, val (WD.m ⟨b, l⟩) = x := ⟨_, rfl⟩
  obtain ⟨y, hy⟩ : ∃ y, val (WD.m ⟨b', l'⟩) = y := ⟨_, rfl⟩
  rw [hx, hy]
  rw [hx, hy] at hd0
  have HS := Lib.hid (And.intro hsa hsb)
  have HX := Lib.hid (And.intro hx hy)
  have HY := Lib.hid (show y ≠ 0 from hy ▸ hv2)
  have HR0 := Lib.hid hd0
  clear hsa hsb hx hy hv2 h0 hr0 hd0
  go_enter Tryd.func13, Tryd.ntmps13
  go_wp2_with fail
  have b0 : Below w.heap.size w ((((w.alloc (.cells #[.bool b, .slice A n c] 24)).alloc (.cells #[.bool b', .slice A' n' c'] 24)).alloc (.cells #[.bool false, .slice none 0 0] 24)).alloc (.cells #[.bool false, .slice none 0 0] 24)) := (((((Below.refl _ _).alloc (Nat.le_refl _) _).alloc (by simp) _).alloc (by simp; omega) _).alloc (by simp; omega) _)
  generalize hW0 : ((((w.alloc (.cells #[.bool b, .slice A n c] 24)).alloc (.cells #[.bool b', .slice A' n' c'] 24)).alloc (.cells #[.bool false, .slice none 0 0] 24)).alloc (.cells #[.bool false, .slice none 0 0] 24)) = W0 at b0 ⊢
  have c00 : W0.cell? ⟨w.heap.size, 0, none⟩ = some (.bool b) := by subst hW0; simp [go_sem]
  have f00 : W0.frozen? ⟨w.heap.size, 0, none⟩ = false := by subst hW0; simp [go_sem]
  have c01 : W0.cell? ⟨w.heap.size, 1, none⟩ = some (.slice A n c) := by subst hW0; simp [go_sem]
  have f01 : W0.frozen? ⟨w.heap.size, 1, none⟩ = false := by subst hW0; simp [go_sem]
  have c10 : W0.cell? ⟨w.heap.size + 1, 0, none⟩ = some (.bool b') := by subst hW0; simp [go_sem]
  have f10 : W0.frozen? ⟨w.heap.size + 1, 0, none⟩ = false := by subst hW0; simp [go_sem]
  have c11 : W0.cell? ⟨w.heap.size + 1, 1, none⟩ = some (.slice A' n' c') := by subst hW0; simp [go_sem]
  have f11 : W0.frozen? ⟨w.heap.size + 1, 1, none⟩ = false := by subst hW0; simp [go_sem]
  have c20 : W0.cell? ⟨w.heap.size + 1 + 1, 0, none⟩ = some (.bool false) := by subst hW0; simp [go_sem]
  have f20 : W0.frozen? ⟨w.heap.size + 1 + 1, 0, none⟩ = false := by subst hW0; simp [go_sem]
  have c21 : W0.cell? ⟨w.heap.size + 1 + 1, 1, none⟩ = some (.slice none 0 0) := by subst hW0; simp [go_sem]
  have f21 : W0.frozen? ⟨w.heap.size + 1 + 1, 1, none⟩ = false := by subst hW0; simp [go_sem]
  have c30 : W0.cell? ⟨w.heap.size + 1 + 1 + 1, 0, none⟩ = some (.bool false) := by subst hW0; simp [go_sem]
  have f30 : W0.frozen? ⟨w.heap.size + 1 + 1 + 1, 0, none⟩ = false := by subst hW0; simp [go_sem]
  have c31 : W0.cell? ⟨w.heap.size + 1 + 1 + 1, 1, none⟩ = some (.slice none 0 0) := by subst hW0; simp [go_sem]
  have f31 : W0.frozen? ⟨w.heap.size + 1 + 1 + 1, 1, none⟩ = false := by subst hW0; simp [go_sem]
  have x0 : Box W0 (w.heap.size) 24 := by subst hW0; exact (((boxAt _ _ _ (by simp)).alloc _).alloc _).alloc _
  have x1 : Box W0 (w.heap.size + 1) 24 := by subst hW0; exact ((boxAt _ _ _ (by simp)).alloc _).alloc _
  have x2 : Box W0 (w.heap.size + 1 + 1) 24 := by subst hW0; exact (boxAt _ _ _ (by simp)).alloc _
  have x3 : Box W0 (w.heap.size + 1 + 1 + 1) 24 := by subst hW0; exact boxAt _ _ _ (by simp)
  have hm0 : Made (w.heap.size + 1 + 1) (w.heap.size + 1 + 1 + 1 + 1) 2 W0 := by subst hW0; exact made2 (by simp) rfl
  have hs0 : w.heap.size + 1 + 1 + 1 + 1 ≤ W0.heap.size := by subst hW0; simp
  have z0 : Blk W0 (w.heap.size) 24 #[.bool b, .slice A n c] := by subst hW0; exact ((((blkAt _ _ _ (by simp)).alloc _).alloc _).alloc _)
  have z1 : Blk W0 (w.heap.size + 1) 24 #[.bool b', .slice A' n' c'] := by subst hW0; exact (((blkAt _ _ _ (by simp)).alloc _).alloc _)
  have z2 : Blk W0 (w.heap.size + 1 + 1) 24 #[.bool false, .slice none 0 0] := by subst hW0; exact ((blkAt _ _ _ (by simp)).alloc _)
  have z3 : Blk W0 (w.heap.size + 1 + 1 + 1) 24 #[.bool false, .slice none 0 0] := by subst hW0; exact (blkAt _ _ _ (by simp))
  clear hW0
  have wa := wa.belw b0
  have wb := wb.belw b0
  have r0 : Below W0.heap.size W0 W0 := brefl _
  go_wp2_with (first
    | (go_at_call 26; (with_reducible refine (r_sign_x _ b' A' n' c' l' s0 ?_ ?_ ?_).mono ?_); (exact wb); (omega); (exact HSG.out); rintro e w1 ⟨rfl, hb1⟩; have r1 := bnext r0 hb1; replace wa := wa.belw hb1; replace wb := wb.belw hb1; (try clear sc sf sr sz); obtain ⟨⟨sc, sf⟩, sr, sz⟩ := Seen.of (by omega) hs0 hm0 r1))
  (try clear sc sf sr sz)
  have hRB : w.heap.size + 1 + 1 ≤ w.heap.size + 1 + 1 + 1 + 1 := by omega
  go_region_held3 (fun w' => Sees (w.heap.size + 1 + 1) W0 w') (first | exact Sees.of (Nat.le_trans hRB hs0) (by assumption) | exact Sees.of (Nat.le_trans hRB hs0) (below_drewN (by assumption) _))
    (first
      | (go_at_call 50; (with_reducible refine (r_mag_c _ b A n c l ?_ ?_).mono ?_); (exact wa); (omega); rintro e w2 ⟨A2, n2, c2, rfl, h2, hb2⟩; replace hb2 := bnext (below_drewN (brefl _) 1) hb2; have r2 := bnext r1 hb2; replace wa := wa.belw hb2; replace wb := wb.belw hb2)
      | (go_at_call 50; (with_reducible refine (r_mag_c _ b' A' n' c' l' ?_ ?_).mono ?_); (exact wb); (omega); rintro e w3 ⟨A3, n3, c3, rfl, h3, hb3⟩; have r3 := bnext r2 hb3; replace wa := wa.belw hb3; replace wb := wb.belw hb3; replace h2 := h2.belw hb3)
      | (go_at_call 49; (with_reducible refine (r_divide_e _ A2 n2 c2 (WD.m ⟨b, l⟩) ?_ ?_ A3 n3 c3 (WD.m ⟨b', l'⟩) ?_ ?_ x y ?_ ?_ ?_).mono ?_); (exact h2); (exact h2.m_len (by rw [← HL.out]; exact hn)); (exact h3); (exact h3.m_len (by rw [← HL'.out]; exact hn')); (exact HX.out.1); (exact HX.out.2); (exact HY.out); rintro e w4 ⟨A4, n4, c4, A5, n5, c5, rfl, h4, h5, hb4⟩; have r4 := bnext r3 hb4; replace wa := wa.belw hb4; replace wb := wb.belw hb4; replace h2 := h2.belw hb4; replace h3 := h3.belw hb4))
  obtain ⟨⟨sc, sf⟩, sr, sz⟩ := Seen.of (by omega) hs0 hm0 r4
  clear hRB
  have hn4 : n4 ≤ 1000000000000 := by
    rw [h4.2.1]; exact dlen (Nat.lt_of_le_of_lt (Nat.div_le_self _ _) (HX.out.1 ▸ h2.vlt (Nat.le_refl _))) (h2.m_len (by rw [← HL.out]; exact hn))
  have hn5 : n5 ≤ 1000000000000 := by
    rw [h5.2.1]; exact dlen (Nat.lt_of_le_of_lt (Nat.mod_le _ _) (HX.out.1 ▸ h2.vlt (Nat.le_refl _))) (h2.m_len (by rw [← HL.out]; exact hn))
  have hn50 : n5 ≠ 0 := by
    intro e
    have h9 := h5.2.1
    rw [e] at h9
    exact HR0.out (digs_eq_nil.1 (List.eq_nil_of_length_eq_zero h9.symm))
  have e5 : decide (0 < n5) = true := by simp; omega
  cases sa
  · go_wp2_with (first
      | (go_at_call 51; (with_reducible refine (r_neg_e _ b A n c l false ?_ ?_ ?_).mono ?_); (exact wa); (omega); (exact HS.out.1); rintro e w5 ⟨rfl, hb5⟩; have r5 := bnext r4 hb5; replace wa := wa.belw hb5; replace wb := wb.belw hb5; replace h2 := h2.belw hb5; replace h3 := h3.belw hb5; replace h4 := h4.belw hb5; replace h5 := h5.belw hb5; (try clear sc sf sr sz); obtain ⟨⟨sc, sf⟩, sr, sz⟩ := Seen.of (by omega) hs0 hm0 r5))
    have HZ := Lib.hid (div_plain (sa := false) (sb := sb) (x := x) HY.out (.inl rfl))
    (try clear sc sf sr sz)
    have hRB : w.heap.size + 1 + 1 ≤ w.heap.size + 1 + 1 + 1 + 1 := by omega
    go_region_held3 (fun w' => Sees (w.heap.size + 1 + 1) W0 w') (first | exact Sees.of (Nat.le_trans hRB hs0) (by assumption) | exact Sees.of (Nat.le_trans hRB hs0) (below_drewN (by assumption) _) | exact (Sees.set (Sees.of (Nat.le_trans hRB hs0) (by assumption)) (by simp)) | exact (Sees.set (Sees.set (Sees.of (Nat.le_trans hRB hs0) (by assumption)) (by simp)) (by simp)) | exact (Sees.set (Sees.set (Sees.set (Sees.of (Nat.le_trans hRB hs0) (by assumption)) (by simp)) (by simp)) (by simp)) | exact (Sees.set (Sees.set (Sees.set (Sees.set (Sees.of (Nat.le_trans hRB hs0) (by assumption)) (by simp)) (by simp)) (by simp)) (by simp)))
      (first
        | (go_at_call 51; (with_reducible refine (r_neg_e _ b A n c l false ?_ ?_ ?_).mono ?_); (exact wa); (omega); (exact HS.out.1); rintro e w6 ⟨rfl, hb6⟩; replace hb6 := bnext (below_drewN (brefl _) 1) hb6; have r6 := bnext r5 hb6; replace wa := wa.belw hb6; replace wb := wb.belw hb6; replace h2 := h2.belw hb6; replace h3 := h3.belw hb6; replace h4 := h4.belw hb6; replace h5 := h5.belw hb6)
        | (go_at_call 51; (with_reducible refine (r_neg_e _ b' A' n' c' l' sb ?_ ?_ ?_).mono ?_); (exact wb); (omega); (exact HS.out.2); rintro e w7 ⟨rfl, hb7⟩; have r7 := bnext r6 hb7; replace wa := wa.belw hb7; replace wb := wb.belw hb7; replace h2 := h2.belw hb7; replace h3 := h3.belw hb7; replace h4 := h4.belw hb7; replace h5 := h5.belw hb7)
        | (go_at_call 54; (with_reducible refine (r_form_e _ sb A4 n4 c4 (digs (x / y)) (sgn false x / sgn sb y) ?_ ?_ ?_).mono ?_); (exact h4); (omega); (rw [HZ.out.1, val_digs]; cases sb <;> rfl); rintro e w8 ⟨A8, n8, c8, rfl, h8, hb8⟩; have r8 := bnext r7 hb8; replace wa := wa.belw hb8; replace wb := wb.belw hb8; replace h2 := h2.belw hb8; replace h3 := h3.belw hb8; replace h4 := h4.belw hb8; replace h5 := h5.belw hb8)
        | (go_at_call 54; (with_reducible refine (r_form_e _ false A5 n5 c5 (digs (x % y)) (sgn false x % sgn sb y) ?_ ?_ ?_).mono ?_); (exact h5); (omega); (rw [HZ.out.2, val_digs]; rfl); rintro e w9 ⟨A9, n9, c9, rfl, h9, hb9⟩; have r9 := bnext r8 hb9; replace wa := wa.belw hb9; replace wb := wb.belw hb9; replace h2 := h2.belw hb9; replace h3 := h3.belw hb9; replace h4 := h4.belw hb9; replace h5 := h5.belw hb9; replace h8 := h8.belw hb9; obtain ⟨⟨sc, sf⟩, sr, sz⟩ := Seen.of (by omega) hs0 hm0 r9))
    clear hRB
    go_wp2_with fail
    refine bodyPost_ret (v := .tuple #[.agg #[.bool _, .slice A8 n8 c8], .agg #[.bool _, .slice A9 n9 c9], .int .i64 0]) (by simp [results, Tryd.results13, go_sem, sr]; first | rfl | exact ⟨rfl, rfl⟩) rfl ?_
    have y2 := x2.below r9
    have y3 := x3.below r9
    refine ⟨A8, n8, c8, A9, n9, c9, rfl, ?_, ?_, ?_⟩
    · exact h8.keep (kp4 y2 y3 (by decide) (by decide) _ _ _ _ _ _ _ _)
    · exact h9.keep (kp4 y2 y3 (by decide) (by decide) _ _ _ _ _ _ _ _)
    · exact ((((b0.trans (r9.mono b0.size)).setCell (by dsimp only; omega) _).setCell (by dsimp only; omega) _).setCell (by dsimp only; omega) _).setCell (by dsimp only; omega) _
  · go_wp2_with (first
      | (go_at_call 51; (with_reducible refine (r_neg_e _ b A n c l true ?_ ?_ ?_).mono ?_); (exact wa); (omega); (exact HS.out.1); rintro e w5 ⟨rfl, hb5⟩; have r5 := bnext r4 hb5; replace wa := wa.belw hb5; replace wb := wb.belw hb5; replace h2 := h2.belw hb5; replace h3 := h3.belw hb5; replace h4 := h4.belw hb5; replace h5 := h5.belw hb5; (try clear sc sf sr sz); obtain ⟨⟨sc, sf⟩, sr, sz⟩ := Seen.of (by omega) hs0 hm0 r5))
    have r5z0 := z0.below r5 z0.lt
    have r5z1 := z1.below r5 z1.lt
    have r5z2 := z2.below r5 z2.lt
    have r5z3 := z3.below r5 z3.lt
    have bw5 := b0.trans (r5.mono b0.size)
    have hyl : val (WD.m ⟨b', l'⟩) = y := HX.out.2
    refine wp_region_val (B := w.heap.size) (fr := fun xf => ⟨List.toArray (.agg #[.bool b, .slice A n c] :: .agg #[.bool b', .slice A' n' c'] :: .pointer (some ⟨w.heap.size, 0, none⟩) :: .pointer (some ⟨w.heap.size + 1, 0, none⟩) :: .pointer (some ⟨w.heap.size + 1 + 1, 0, none⟩) :: .pointer (some ⟨w.heap.size + 1 + 1 + 1, 0, none⟩) :: .int .i64 0 :: xf 7 :: xf 8 :: .agg #[.bool b', .slice A' n' c'] :: .int .i64 s0 :: .bool false :: undef :: undef :: .tuple #[.slice A4 n4 c4, .slice A5 n5 c5] :: .agg #[.bool b, .slice A n c] :: .slice A2 n2 c2 :: .agg #[.bool b', .slice A' n' c'] :: .slice A3 n3 c3 :: .tuple #[.slice A4 n4 c4, .slice A5 n5 c5] :: .slice A4 n4 c4 :: .slice A5 n5 c5 :: .agg #[.bool b, .slice A n c] :: .bool true :: .bool true :: .slice A5 n5 c5 :: .int .i64 (n5 : Nat) :: .bool true :: .bool true :: xf 0 :: xf 1 :: xf 2 :: xf 3 :: xf 4 :: xf 5 :: xf 6 :: undef :: undef :: undef :: undef :: undef :: undef :: undef :: undef :: undef :: []), []⟩) (R := fun i => List.getD ((PEq (.slice A4 n4 c4)) :: (VL [1] 1) :: (VL (digs (x / y + 1)) 1000000000002) :: (PEq (.agg #[.bool b', .slice A' n' c'])) :: (VL (WD.m ⟨b', l'⟩) 1000000000000) :: (PEq (.slice A5 n5 c5)) :: (VL (digs (y - x % y)) 1000000000000) :: (VL (digs (x / y + 1)) 1000000000002) :: (VL (digs (y - x % y)) 1000000000000) :: []) i (fun _ _ => True)) (ow := [⟨w.heap.size, 9, 0, 24, #[.bool b, .slice A n c], CAny⟩, ⟨w.heap.size + 1, 9, 0, 24, #[.bool b', .slice A' n' c'], CAny⟩, ⟨w.heap.size + 1 + 1, 9, 0, 24, #[.bool false, .slice none 0 0], CAny⟩, ⟨w.heap.size + 1 + 1 + 1, 9, 0, 24, #[.bool false, .slice none 0 0], CAny⟩]) (x0 := (upd (upd (fun _ => undef) 7 (.slice A4 n4 c4)) 8 (.slice A5 n5 c5))) (by kernel_rfl)
      (each_of ⟨fun _ _ => rfl, fun _ _ => rfl, fun _ _ => rfl, fun _ _ => rfl, fun _ _ => rfl, fun _ _ => rfl, fun _ _ => rfl, fun _ _ => rfl, fun _ _ => rfl, trivial⟩) (each_of (acyc_from _ 0 (by kernel_rfl))) (AllStab.get _ ⟨stEq _, stL _ _, stL _ _, stEq _, stL _ _, stEq _, stL _ _, stL _ _, stL _ _, trivial⟩)
      bw5.size (List.forall_mem_cons.2 ⟨r5z0, List.forall_mem_cons.2 ⟨r5z1, List.forall_mem_cons.2 ⟨r5z2, List.forall_mem_cons.2 ⟨r5z3, fun _ h => nomatch h⟩⟩⟩⟩)
      (each_of ⟨?_, ?_, ?_, ?_, ?_, ?_, ?_, ?_, ?_, trivial⟩) ?_
    · exact fun xf wq hk how hd hx K hK => by
        have e7 : xf 7 = .slice A4 n4 c4 := (hx 7 _ rfl ⟨⟨0, .phase⟩, by simp, rfl, rfl⟩).trans (by simp [upd])
        (try dsimp only); simp only [e7]
        go_simp
        have hz := hK.out (.slice A4 n4 c4) _ rfl (brefl _)
        simp only [e7] at hz
        exact hz
    · exact fun xf wq hk how hd hx K hK => by
        (try dsimp only)
        go_simp
        exact hK.out _ _ ⟨_, _, _, rfl, (show Blk _ wq.heap.size 53 (cellsOf [1]) from blkAt wq _ _ rfl).wdN (by intro u hu; simp at hu; omega) rfl, Nat.le_refl _⟩ ((brefl _).alloc (Nat.le_refl _) _)
    · exact fun xf wq hk how hd hx K hK => by
        have dq0 : xf 0 = .slice A4 n4 c4 := hd ⟨0, .data⟩ (by simp) rfl
        obtain ⟨A6, n6, c6, dq1, h6, hn6⟩ : VL [1] 1 (xf 1) wq := hd ⟨1, .data⟩ (by simp) rfl
        (try dsimp only); (try simp only [dq0, dq1])
        go_simp
        go_at_call 52
        (with_reducible refine (r_plus_c _ A4 n4 c4 (digs (x / y)) ?_ ?_ A6 n6 c6 [1] ?_ ?_).mono ?_); (exact h4.keep hk); omega; (exact h6); omega; rintro e wr ⟨A7, n7, c7, rfl, h7, hbr⟩
        rw [val_digs, show val [1] = 1 from rfl] at h7
        have hn7 : n7 ≤ 1000000000002 := by
          rw [h7.2.1]
          refine Nat.le_trans (length_digs_le (k := n4 + 1) ?_) (by omega)
          have h9 := h4.vlt (Nat.le_refl _)
          rw [val_digs] at h9
          have h10 := pow_pos' n4
          rw [Nat.pow_succ]; omega
        have hz := hK.out _ _ ⟨A7, n7, c7, rfl, h7, hn7⟩ hbr
        simp only [dq0, dq1] at hz
        exact hz
    · exact fun xf wq hk how hd hx K hK => by
        have yb : Blk wq (w.heap.size + 1) 24 #[.bool b', .slice A' n' c'] := how _ (List.Mem.tail _ (List.Mem.head _))
        obtain ⟨hcl0, hcl1⟩ := yb.c2
        (try dsimp only)
        go_simp
        exact hK.out (.agg #[.bool b', .slice A' n' c']) _ rfl (brefl _)
    · exact fun xf wq hk how hd hx K hK => by
        have dq3 : xf 3 = .agg #[.bool b', .slice A' n' c'] := hd ⟨3, .data⟩ (by simp) rfl
        (try dsimp only); (try simp only [dq3])
        go_simp
        go_at_call 50
        (with_reducible refine (r_mag_c _ b' A' n' c' l' ?_ ?_).mono ?_); (exact wb.keep hk); omega; rintro e wr ⟨A7, n7, c7, rfl, h7, hbr⟩
        have hn7 : n7 ≤ 1000000000000 := h7.m_len (by rw [← HL'.out]; exact hn')
        have hz := hK.out _ _ ⟨A7, n7, c7, rfl, h7, hn7⟩ hbr
        simp only [dq3] at hz
        exact hz
    · exact fun xf wq hk how hd hx K hK => by
        have e8 : xf 8 = .slice A5 n5 c5 := (hx 8 _ rfl ⟨⟨5, .phase⟩, by simp, rfl, rfl⟩).trans (by simp [upd])
        (try dsimp only); simp only [e8]
        go_simp
        have hz := hK.out (.slice A5 n5 c5) _ rfl (brefl _)
        simp only [e8] at hz
        exact hz
    · exact fun xf wq hk how hd hx K hK => by
        obtain ⟨A6, n6, c6, dq4, h6, hn6⟩ : VL (WD.m ⟨b', l'⟩) 1000000000000 (xf 4) wq := hd ⟨4, .data⟩ (by simp) rfl
        have dq5 : xf 5 = .slice A5 n5 c5 := hd ⟨5, .data⟩ (by simp) rfl
        (try dsimp only); (try simp only [dq4, dq5])
        go_simp
        go_at_call 53
        have hle : x % y ≤ y := Nat.le_of_lt (Nat.mod_lt _ (Nat.pos_of_ne_zero HY.out))
        have hn56 : n5 ≤ n6 := by
          rw [h5.2.1]
          apply length_digs_le
          have h9 := h6.vlt (Nat.le_refl _)
          rw [hyl] at h9; omega
        (with_reducible refine (r_minus_c _ A6 n6 c6 (WD.m ⟨b', l'⟩) ?_ ?_ A5 n5 c5 (digs (x % y)) ?_ ?_ ?_).mono ?_); (exact h6); omega; (exact h5.keep hk); (exact hn56); (rw [val_digs, hyl]; exact hle); rintro e wr ⟨A7, n7, c7, rfl, h7, hbr⟩
        rw [val_digs, hyl] at h7
        have hn7 : n7 ≤ 1000000000000 := by
          rw [h7.2.1]
          refine Nat.le_trans (length_digs_le (k := n6) ?_) hn6
          have h9 := h6.vlt (Nat.le_refl _)
          rw [hyl] at h9; omega
        have hz := hK.out _ _ ⟨A7, n7, c7, rfl, h7, hn7⟩ hbr
        simp only [dq4, dq5] at hz
        exact hz
    · exact fun xf wq hk how hd hx K hK => by
        obtain ⟨A6, n6, c6, dq2, h6, hn6⟩ : VL (digs (x / y + 1)) 1000000000002 (xf 2) wq := hd ⟨2, .data⟩ (by simp) rfl
        (try dsimp only); (try simp only [dq2])
        go_simp
        have hz := hK.out _ _ ⟨A6, n6, c6, rfl, h6, hn6⟩ (brefl _)
        simp only [dq2] at hz
        exact hz
    · exact fun xf wq hk how hd hx K hK => by
        obtain ⟨A6, n6, c6, dq6, h6, hn6⟩ : VL (digs (y - x % y)) 1000000000000 (xf 6) wq := hd ⟨6, .data⟩ (by simp) rfl
        (try dsimp only); (try simp only [dq6])
        go_simp
        have hz := hK.out _ _ ⟨A6, n6, c6, rfl, h6, hn6⟩ (brefl _)
        simp only [dq6] at hz
        exact hz
    intro yv W1 kq hbl1 lw1 how hrr
    obtain ⟨A6, n6, c6, ea7, h6, hn6⟩ : VL (digs (x / y + 1)) 1000000000002 (yv 7) W1 := hrr 7 (by simp)
    obtain ⟨A7, n7, c7, ea8, h7, hn7⟩ : VL (digs (y - x % y)) 1000000000000 (yv 8) W1 := hrr 8 (by simp)
    have y0 := how _ (List.Mem.head _)
    dsimp only at y0
    have y1 := how _ (List.Mem.tail _ (List.Mem.head _))
    dsimp only at y1
    have y2 := how _ (List.Mem.tail _ (List.Mem.tail _ (List.Mem.head _)))
    dsimp only at y2
    have y3 := how _ (List.Mem.tail _ (List.Mem.tail _ (List.Mem.tail _ (List.Mem.head _))))
    dsimp only at y3
    (try dsimp only)
    simp only [ea7, ea8]
    clear hrr how ea7 ea8
    replace wa := wa.keep kq
    replace wb := wb.keep kq
    clear b0 c00 f00 c01 f01 c10 f10 c11 f11 c20 f20 c21 f21 c30 f30 c31 f31 x0 x1 x2 x3 hm0 hs0 r0 r1 r2 r3 r4 h2 h3 sc sf sr sz
    have b0 : Below w.heap.size w W1 := bw5.trans hbl1
    clear z0 z1 z2 z3 bw5 r5 r5z0 r5z1 r5z2 r5z3 kq hbl1
    obtain ⟨c00, c01⟩ := y0.c2
    obtain ⟨f00, f01⟩ := y0.f2
    obtain ⟨c10, c11⟩ := y1.c2
    obtain ⟨f10, f11⟩ := y1.f2
    obtain ⟨c20, c21⟩ := y2.c2
    obtain ⟨f20, f21⟩ := y2.f2
    obtain ⟨c30, c31⟩ := y3.c2
    obtain ⟨f30, f31⟩ := y3.f2
    have x2 : Box W1 (w.heap.size + 1 + 1) 24 := ⟨_, _, y2⟩
    have x3 : Box W1 (w.heap.size + 1 + 1 + 1) 24 := ⟨_, _, y3⟩
    have hm0 : Made (w.heap.size + 1 + 1) (w.heap.size + 1 + 1 + 1 + 1) 2 W1 := by
      intro g h1 h2
      by_cases e : g = w.heap.size + 1 + 1
      · subst e; exact ⟨_, _, y2, rfl⟩
      · have e2 : g = w.heap.size + 1 + 1 + 1 := by omega
        subst e2; exact ⟨_, _, y3, rfl⟩
    have hs0 : w.heap.size + 1 + 1 + 1 + 1 ≤ W1.heap.size := by have := y3.lt; omega
    have r5 : Below W1.heap.size W1 W1 := brefl _
    clear y0 y1 y2 y3
    go_wp2_with fail
    have HZ := Lib.hid (div_adj (sb := sb) (x := x) HY.out HR0.out)
    (try clear sc sf sr sz)
    have hRB : w.heap.size + 1 + 1 ≤ w.heap.size + 1 + 1 + 1 + 1 := by omega
    go_region_held3 (fun w' => Sees (w.heap.size + 1 + 1) W1 w') (first | exact Sees.of (Nat.le_trans hRB hs0) (by assumption) | exact Sees.of (Nat.le_trans hRB hs0) (below_drewN (by assumption) _) | exact (Sees.set (Sees.of (Nat.le_trans hRB hs0) (by assumption)) (by simp)) | exact (Sees.set (Sees.set (Sees.of (Nat.le_trans hRB hs0) (by assumption)) (by simp)) (by simp)) | exact (Sees.set (Sees.set (Sees.set (Sees.of (Nat.le_trans hRB hs0) (by assumption)) (by simp)) (by simp)) (by simp)) | exact (Sees.set (Sees.set (Sees.set (Sees.set (Sees.of (Nat.le_trans hRB hs0) (by assumption)) (by simp)) (by simp)) (by simp)) (by simp)))
      (first
        | (go_at_call 51; (with_reducible refine (r_neg_e _ b A n c l true ?_ ?_ ?_).mono ?_); (exact wa); (omega); (exact HS.out.1); rintro e w6 ⟨rfl, hb6⟩; replace hb6 := bnext (below_drewN (brefl _) 1) hb6; have r6 := bnext r5 hb6; replace wa := wa.belw hb6; replace wb := wb.belw hb6; replace h6 := h6.belw hb6; replace h7 := h7.belw hb6)
        | (go_at_call 51; (with_reducible refine (r_neg_e _ b' A' n' c' l' sb ?_ ?_ ?_).mono ?_); (exact wb); (omega); (exact HS.out.2); rintro e w7 ⟨rfl, hb7⟩; have r7 := bnext r6 hb7; replace wa := wa.belw hb7; replace wb := wb.belw hb7; replace h6 := h6.belw hb7; replace h7 := h7.belw hb7)
        | (go_at_call 54; (with_reducible refine (r_form_e _ (!sb) A6 n6 c6 (digs (x / y + 1)) (sgn true x / sgn sb y) ?_ ?_ ?_).mono ?_); (exact h6); (omega); (rw [HZ.out.1, val_digs]; cases sb <;> rfl); rintro e w8 ⟨A8, n8, c8, rfl, h8, hb8⟩; have r8 := bnext r7 hb8; replace wa := wa.belw hb8; replace wb := wb.belw hb8; replace h6 := h6.belw hb8; replace h7 := h7.belw hb8)
        | (go_at_call 54; (with_reducible refine (r_form_e _ false A7 n7 c7 (digs (y - x % y)) (sgn true x % sgn sb y) ?_ ?_ ?_).mono ?_); (exact h7); (omega); (rw [HZ.out.2, val_digs]; rfl); rintro e w9 ⟨A9, n9, c9, rfl, h9, hb9⟩; have r9 := bnext r8 hb9; replace wa := wa.belw hb9; replace wb := wb.belw hb9; replace h6 := h6.belw hb9; replace h7 := h7.belw hb9; replace h8 := h8.belw hb9; obtain ⟨⟨sc, sf⟩, sr, sz⟩ := Seen.of (by omega) hs0 hm0 r9))
    clear hRB
    go_wp2_with fail
    refine bodyPost_ret (v := .tuple #[.agg #[.bool _, .slice A8 n8 c8], .agg #[.bool _, .slice A9 n9 c9], .int .i64 0]) (by simp [results, Tryd.results13, go_sem, sr]; first | rfl | exact ⟨rfl, rfl⟩) rfl ?_
    have y2 := x2.below r9
    have y3 := x3.below r9
    refine ⟨A8, n8, c8, A9, n9, c9, rfl, ?_, ?_, ?_⟩
    · exact h8.keep (kp4 y2 y3 (by decide) (by decide) _ _ _ _ _ _ _ _)
    · exact h9.keep (kp4 y2 y3 (by decide) (by decide) _ _ _ _ _ _ _ _)
    · exact ((((b0.trans (r9.mono b0.size)).setCell (by dsimp only; omega) _).setCell (by dsimp only; omega) _).setCell (by dsimp only; omega) _).setCell (by dsimp only; omega) _

end Go.Proofs.YtkehcfclggmblaaDoor

/- Walks: IntegerDivides. -/
namespace Go.Proofs.YtkehcfclggmblaaDoor
open Go Go.RowKit Bn
attribute [local go_sem ↓] Go.wp_at_zero Go.wp_at_succ
/-- What Div gives, its error and the error's number. -/
def DivG (z z' : Int) (v : Value) (d q r : Int) : Prop := (z' = 0 ∧ v = .iface 50 (.int .i64 8) ∧ d = 8 ∧ q = 0 ∧ r = 0) ∨ (z' ≠ 0 ∧ v = .nilIface ∧ d = 0 ∧ q = z / z' ∧ r = z % z')
def ErrN (v : Value) (d : Int) : Prop := (v = .nilIface ∧ d = 0) ∨ v = .iface 50 (.int .i64 d)
theorem divG (z z' : Int) : ∃ v d q r, DivG z z' v d q r := by
  by_cases h : z' = 0
  · exact ⟨_, _, _, _, .inl ⟨h, rfl, rfl, rfl, rfl⟩⟩
  · exact ⟨_, _, _, _, .inr ⟨h, rfl, rfl, rfl, rfl⟩⟩
theorem DivG.err {z z' d q r : Int} {v : Value} (h : DivG z z' v d q r) : ErrN v d := by
  rcases h with ⟨_, rfl, rfl, _⟩ | ⟨_, rfl, rfl, _⟩
  · exact .inr rfl
  · exact .inl ⟨rfl, rfl⟩
theorem rootG (z : Int) : ∃ v d, rootE z = v ∧ rootN z = .int .i64 d ∧ ErrN v d := by
  unfold rootE rootN
  by_cases h : z < 0
  · rw [if_pos h, if_pos h]; exact ⟨_, _, rfl, rfl, .inr rfl⟩
  · rw [if_neg h, if_neg h]; exact ⟨_, _, rfl, rfl, .inl ⟨rfl, rfl⟩⟩
theorem b_num_g (w : World) (v : Value) (d : Int) (h : ErrN v d) : Calls Tryd.prog 15 #[v] w (RetV w (.int .i64 d)) := by
  rcases h with ⟨rfl, rfl⟩ | rfl
  · exact b_num_nil w
  · exact b_num_err w d
theorem i_div_g (w : World) (b : Bool) (A : Option Addr) (n c : Nat) (z : Int) (k : Nat) (h : IZ w b A n c z k) (b' : Bool) (A' : Option Addr) (n' c' : Nat) (z' : Int) (k' : Nat) (h' : IZ w b' A' n' c' z' k') (hk : k + k' ≤ 1000000000) (v : Value) (d q r : Int) (hg : DivG z z' v d q r) : Calls Tryd.prog 11 #[.agg #[.bool b, .slice A n c], .agg #[.bool b', .slice A' n' c']] w (RetDv w v q r (k + k')) := by
  rcases hg with ⟨h0, rfl, rfl, rfl, rfl⟩ | ⟨h0, rfl, rfl, rfl, rfl⟩
  · exact i_div0 w b A n c z k h b' A' n' c' z' k' h' hk h0
  · exact i_div w b A n c z k h b' A' n' c' z' k' h' hk h0
theorem r01_div_r (w : World) (b : Bool) (A : Option Addr) (n c : Nat) (z : Int) (k : Nat) (h : IZ w b A n c z k) (b' : Bool) (A' : Option Addr) (n' c' : Nat) (z' : Int) (k' : Nat) (h' : IZ w b' A' n' c' z' k') (hk : k + k' ≤ 1000000000) (h0 : z' ≠ 0) (hr : z % z' ≠ 0) : Calls Tryd.prog 13 #[.agg #[.bool b, .slice A n c], .agg #[.bool b', .slice A' n' c']] w (RetDv w (.int .i64 0) (z / z') (z % z') (k + k')) := by
  have hz := h.mono (Nat.le_add_right k k') |>.lt
  have hz' := h'.mono (Nat.le_add_left k' k) |>.lt
  obtain ⟨l, h1, rfl, h3⟩ := h
  obtain ⟨l', h1', rfl, h3'⟩ := h'
  refine (r_div_R w b A n c l h1 (by omega) b' A' n' c' l' h1' (by omega) h0 hr).mono fun _ _ r => ?_
  obtain ⟨A1, n1, c1, A2, n2, c2, rfl, r1, r2, r3⟩ := r
  refine ⟨_, A1, n1, c1, _, A2, n2, c2, rfl, IV.mk_ r1 rfl ?_, IV.mk_ r2 rfl ?_, r3⟩
  · exact Nat.lt_of_le_of_lt (Int.natAbs_ediv_le_natAbs _ _) hz
  · have e1 := Int.emod_nonneg (WD.z ⟨b, l⟩) h0
    have e2 := Int.emod_lt (WD.z ⟨b, l⟩) h0
    omega
theorem r01_div_g (w : World) (b : Bool) (A : Option Addr) (n c : Nat) (z : Int) (k : Nat) (h : IZ w b A n c z k) (b' : Bool) (A' : Option Addr) (n' c' : Nat) (z' : Int) (k' : Nat) (h' : IZ w b' A' n' c' z' k') (hk : k + k' ≤ 1000000000) (v : Value) (d q r : Int) (hg : DivG z z' v d q r) : Calls Tryd.prog 13 #[.agg #[.bool b, .slice A n c], .agg #[.bool b', .slice A' n' c']] w (RetDv w (.int .i64 d) q r (k + k')) := by
  rcases hg with ⟨h0, rfl, rfl, rfl, rfl⟩ | ⟨h0, rfl, rfl, rfl, rfl⟩
  · exact r01_div0 w b A n c z k h b' A' n' c' z' k' h' hk h0
  · by_cases hr : z % z' = 0
    · exact r01_div w b A n c z k h b' A' n' c' z' k' h' hk h0 hr
    · exact r01_div_r w b A n c z k h b' A' n' c' z' k' h' hk h0 hr
theorem r01_root (w : World) (b : Bool) (A : Option Addr) (n c : Nat) (z : Int) (k : Nat) (h : IZ w b A n c z k) (hk : k ≤ 1000000000) (v : Value) (hv : rootN z = v) (y : Int) (hy : rootZ z = y) : Calls Tryd.prog 14 #[.agg #[.bool b, .slice A n c]] w (RetIe w v y k) := by
  subst hv hy
  obtain ⟨l, h1, rfl, h3⟩ := h
  exact r_root_C w b A n c l k h1 h3 hk
theorem i_gcd_v (w : World) (b : Bool) (A : Option Addr) (n c : Nat) (z : Int) (k : Nat) (h : IZ w b A n c z k) (b' : Bool) (A' : Option Addr) (n' c' : Nat) (z' : Int) (k' : Nat) (h' : IZ w b' A' n' c' z' k') (hk : k + k' ≤ 1000000000) (g : Int) (hg : ((Nat.gcd z.natAbs z'.natAbs : Nat) : Int) = g) : Calls Tryd.prog 17 #[.agg #[.bool b, .slice A n c], .agg #[.bool b', .slice A' n' c']] w (RetI w g (k + k')) := by
  subst hg; exact i_gcd w b A n c z k h b' A' n' c' z' k' h' hk
theorem r01_gcd_v (w : World) (b : Bool) (A : Option Addr) (n c : Nat) (z : Int) (k : Nat) (h : IZ w b A n c z k) (b' : Bool) (A' : Option Addr) (n' c' : Nat) (z' : Int) (k' : Nat) (h' : IZ w b' A' n' c' z' k') (hk : k + k' ≤ 1000000000) (g : Int) (hg : ((Nat.gcd z.natAbs z'.natAbs : Nat) : Int) = g) : Calls Tryd.prog 18 #[.agg #[.bool b, .slice A n c], .agg #[.bool b', .slice A' n' c']] w (RetI w g (k + k')) := by
  subst hg; exact r01_gcd w b A n c z k h b' A' n' c' z' k' h' hk
set_option maxRecDepth 100000 in
set_option maxHeartbeats 8000000 in
/-- linkworklaw01.IntegerDivides -/
theorem l_IntegerDivides (w : World) (b : Bool) (A : Option Addr) (n c : Nat) (z : Int) (k : Nat) (H : IZ w b A n c z k) (b' : Bool) (A' : Option Addr) (n' c' : Nat) (z' : Int) (k' : Nat) (H' : IZ w b' A' n' c' z' k') (htab : Tab w) :
    Calls Tryd.prog 3 #[.agg #[.bool b, .slice A n c], .agg #[.bool b', .slice A' n' c']] w (RetV w (.bool true)) := by
  go_enter Tryd.func3, Tryd.ntmps3
  go_wp2_with fail
  (with_reducible refine (l_short _ (w.heap.size + 1 + 1) 2 (fun i : Nat => if i = 0 then n else n') ?_ ?_).mono ?_); (exact ws2 (blkAt _ _ _ (by simp))); (decide); rintro e w1 ⟨r1, rfl, hr1, hb1⟩
  have q1 : Below w.heap.size w w1 := ((((Below.refl _ _).alloc (Nat.le_refl _) _).alloc (by simp) _).alloc (by simp <;> omega) _).trans (hb1.mono (by simp <;> omega))
  replace H := H.belw q1
  replace H' := H'.belw q1
  have x1_0 : Blk w1 (w.heap.size) 24 #[.bool b, .slice A n c] := (((blkAt _ _ _ (by simp)).alloc _).alloc _).below hb1 (by simp <;> omega)
  have x1_1 : Blk w1 (w.heap.size + 1) 24 #[.bool b', .slice A' n' c'] := ((blkAt _ _ _ (by simp)).alloc _).below hb1 (by simp <;> omega)
  have x1_2 : Blk w1 (w.heap.size + 1 + 1) 24 #[.bool b, .slice A n c, .bool b', .slice A' n' c'] := (blkAt _ _ _ (by simp)).below hb1 (by simp)
  have bw1 : Below w.heap.size w w1 := (brefl w).trans (q1.mono (brefl w).size)
  have lw1 : w.heap.size + 3 ≤ w1.heap.size := by have := hb1.size; simp at this; omega
  clear hb1 q1
  cases r1
  · clear hr1
    go_wp2_with fail
    (with_reducible refine (l_awake _  ?_).mono ?_); (exact htab.belw bw1); rintro e w2 ⟨rfl, hb2⟩
    have q2 : Below w1.heap.size w1 w2 := hb2
    replace H := H.belw q2
    replace H' := H'.belw q2
    replace x1_0 := x1_0.below q2 x1_0.lt
    replace x1_1 := x1_1.below q2 x1_1.lt
    replace x1_2 := x1_2.below q2 x1_2.lt
    have bw2 : Below w.heap.size w w2 := bw1.trans (q2.mono bw1.size)
    have lw2 : w1.heap.size ≤ w2.heap.size := q2.size
    clear hb2 q2 bw1
    go_wp2_with fail
    go_ret
    exact retB rfl bw2
  · replace H := IZ.short H (hr1 rfl 0 (by decide))
    replace H' := IZ.short H' (hr1 rfl 1 (by decide))
    clear hr1
    go_wp2_with fail
    (with_reducible refine (l_awake _  ?_).mono ?_); (exact htab.belw bw1); rintro e w2 ⟨rfl, hb2⟩
    have q2 : Below w1.heap.size w1 w2 := hb2
    replace H := H.belw q2
    replace H' := H'.belw q2
    replace x1_0 := x1_0.below q2 x1_0.lt
    replace x1_1 := x1_1.below q2 x1_1.lt
    replace x1_2 := x1_2.below q2 x1_2.lt
    have bw2 : Below w.heap.size w w2 := bw1.trans (q2.mono bw1.size)
    have lw2 : w1.heap.size ≤ w2.heap.size := q2.size
    clear hb2 q2 bw1
    obtain ⟨cx1_0_0, cx1_0_1⟩ := x1_0.c2
    obtain ⟨lx1_0_0, lx1_0_1, lx1_0_2, lx1_0_3⟩ := lts0 x1_0.lt
    obtain ⟨cx1_1_0, cx1_1_1⟩ := x1_1.c2
    obtain ⟨lx1_1_0, lx1_1_1, lx1_1_2, lx1_1_3⟩ := lts1 x1_1.lt
    go_wp2_with fail
    obtain ⟨v, d, q, r, hg⟩ := divG z z'
    obtain ⟨rv, rd, hrv, hrd, hre⟩ := rootG z
    obtain ⟨s, hs⟩ : ∃ s, rootZ z = s := ⟨_, rfl⟩
    obtain ⟨g, hgc⟩ : ∃ g, ((Nat.gcd z.natAbs z'.natAbs : Nat) : Int) = g := ⟨_, rfl⟩
    have HG := Lib.hid hg
    have HR := Lib.hid (And.intro hrv (And.intro hrd hs))
    have HE := Lib.hid (And.intro hg.err hre)
    have HC := Lib.hid hgc
    have HK0 : 30 + 30 ≤ 1000000000 := by decide
    have HK1 : 30 ≤ 1000000000 := by decide
    clear hg hrv hrd hre hs hgc
    (with_reducible refine (i_div_g _ b A n c (z) (30) ?_ b' A' n' c' (z') (30) ?_ HK0 v d q r HG.out).mono ?_); (exact H); (exact H'); rintro e w3 ⟨b3, A3, n3, c3, b'3, A'3, n'3, c'3, rfl, h3, h'3, hb3⟩
    clear cx1_0_0 cx1_0_1 lx1_0_0 lx1_0_1 lx1_0_2 lx1_0_3 cx1_1_0 cx1_1_1 lx1_1_0 lx1_1_1 lx1_1_2 lx1_1_3
    have q3 : Below w2.heap.size w2 w3 := hb3
    replace H := H.belw q3
    replace H' := H'.belw q3
    replace x1_0 := x1_0.below q3 x1_0.lt
    replace x1_1 := x1_1.below q3 x1_1.lt
    replace x1_2 := x1_2.below q3 x1_2.lt
    have bw3 : Below w.heap.size w w3 := bw2.trans (q3.mono bw2.size)
    have lw3 : w2.heap.size ≤ w3.heap.size := q3.size
    clear hb3 q3 bw2
    obtain ⟨cx1_0_0, cx1_0_1⟩ := x1_0.c2
    obtain ⟨lx1_0_0, lx1_0_1, lx1_0_2, lx1_0_3⟩ := lts0 x1_0.lt
    go_wp2_with fail
    (with_reducible refine (i_root _ b A n c (z) (30) ?_ HK1 _ HR.out.1 _ HR.out.2.2).mono ?_); (exact (H.belw (((Below.refl _ _).alloc (Nat.le_refl _) _).alloc (by simp) _))); rintro e w4 ⟨b4, A4, n4, c4, rfl, h4, hb4⟩
    clear cx1_0_0 cx1_0_1 lx1_0_0 lx1_0_1 lx1_0_2 lx1_0_3
    have q4 : Below w3.heap.size w3 w4 := (((Below.refl _ _).alloc (Nat.le_refl _) _).alloc (by simp) _).trans (hb4.mono (by simp <;> omega))
    replace H := H.belw q4
    replace H' := H'.belw q4
    replace h3 := h3.belw q4
    replace h'3 := h'3.belw q4
    replace x1_0 := x1_0.below q4 x1_0.lt
    replace x1_1 := x1_1.below q4 x1_1.lt
    replace x1_2 := x1_2.below q4 x1_2.lt
    have x4_0 : Blk w4 (w3.heap.size) 24 #[.bool b3, .slice A3 n3 c3] := ((blkAt _ _ _ (by simp)).alloc _).below hb4 (by simp <;> omega)
    have x4_1 : Blk w4 (w3.heap.size + 1) 24 #[.bool b'3, .slice A'3 n'3 c'3] := (blkAt _ _ _ (by simp)).below hb4 (by simp)
    have bw4 : Below w.heap.size w w4 := bw3.trans (q4.mono bw3.size)
    have lw4 : w3.heap.size + 2 ≤ w4.heap.size := by have := hb4.size; simp at this; omega
    clear hb4 q4 bw3
    obtain ⟨cx1_0_0, cx1_0_1⟩ := x1_0.c2
    obtain ⟨lx1_0_0, lx1_0_1, lx1_0_2, lx1_0_3⟩ := lts0 x1_0.lt
    obtain ⟨cx1_1_0, cx1_1_1⟩ := x1_1.c2
    obtain ⟨lx1_1_0, lx1_1_1, lx1_1_2, lx1_1_3⟩ := lts1 x1_1.lt
    go_wp2_with fail
    (with_reducible refine (r01_div_g _ b A n c (z) (30) ?_ b' A' n' c' (z') (30) ?_ HK0 v d q r HG.out).mono ?_); (exact (H.belw ((Below.refl _ _).alloc (Nat.le_refl _) _))); (exact (H'.belw ((Below.refl _ _).alloc (Nat.le_refl _) _))); rintro e w5 ⟨b5, A5, n5, c5, b'5, A'5, n'5, c'5, rfl, h5, h'5, hb5⟩
    clear cx1_0_0 cx1_0_1 lx1_0_0 lx1_0_1 lx1_0_2 lx1_0_3 cx1_1_0 cx1_1_1 lx1_1_0 lx1_1_1 lx1_1_2 lx1_1_3
    have q5 : Below w4.heap.size w4 w5 := ((Below.refl _ _).alloc (Nat.le_refl _) _).trans (hb5.mono (by simp))
    replace H := H.belw q5
    replace H' := H'.belw q5
    replace h3 := h3.belw q5
    replace h'3 := h'3.belw q5
    replace h4 := h4.belw q5
    replace x1_0 := x1_0.below q5 x1_0.lt
    replace x1_1 := x1_1.below q5 x1_1.lt
    replace x1_2 := x1_2.below q5 x1_2.lt
    replace x4_0 := x4_0.below q5 x4_0.lt
    replace x4_1 := x4_1.below q5 x4_1.lt
    have x5_0 : Blk w5 (w4.heap.size) 24 #[.bool b4, .slice A4 n4 c4] := (blkAt _ _ _ (by simp)).below hb5 (by simp)
    have bw5 : Below w.heap.size w w5 := bw4.trans (q5.mono bw4.size)
    have lw5 : w4.heap.size + 1 ≤ w5.heap.size := by have := hb5.size; simp at this; omega
    clear hb5 q5 bw4
    obtain ⟨cx1_0_0, cx1_0_1⟩ := x1_0.c2
    obtain ⟨lx1_0_0, lx1_0_1, lx1_0_2, lx1_0_3⟩ := lts0 x1_0.lt
    go_wp2_with fail
    (with_reducible refine (r01_root _ b A n c (z) (30) ?_ HK1 _ HR.out.2.1 _ HR.out.2.2).mono ?_); (exact (H.belw (((Below.refl _ _).alloc (Nat.le_refl _) _).alloc (by simp) _))); rintro e w6 ⟨b6, A6, n6, c6, rfl, h6, hb6⟩
    clear cx1_0_0 cx1_0_1 lx1_0_0 lx1_0_1 lx1_0_2 lx1_0_3
    have q6 : Below w5.heap.size w5 w6 := (((Below.refl _ _).alloc (Nat.le_refl _) _).alloc (by simp) _).trans (hb6.mono (by simp <;> omega))
    replace H := H.belw q6
    replace H' := H'.belw q6
    replace h3 := h3.belw q6
    replace h'3 := h'3.belw q6
    replace h4 := h4.belw q6
    replace h5 := h5.belw q6
    replace h'5 := h'5.belw q6
    replace x1_0 := x1_0.below q6 x1_0.lt
    replace x1_1 := x1_1.below q6 x1_1.lt
    replace x1_2 := x1_2.below q6 x1_2.lt
    replace x4_0 := x4_0.below q6 x4_0.lt
    replace x4_1 := x4_1.below q6 x4_1.lt
    replace x5_0 := x5_0.below q6 x5_0.lt
    have x6_0 : Blk w6 (w5.heap.size) 24 #[.bool b5, .slice A5 n5 c5] := ((blkAt _ _ _ (by simp)).alloc _).below hb6 (by simp <;> omega)
    have x6_1 : Blk w6 (w5.heap.size + 1) 24 #[.bool b'5, .slice A'5 n'5 c'5] := (blkAt _ _ _ (by simp)).below hb6 (by simp)
    have bw6 : Below w.heap.size w w6 := bw5.trans (q6.mono bw5.size)
    have lw6 : w5.heap.size + 2 ≤ w6.heap.size := by have := hb6.size; simp at this; omega
    clear hb6 q6 bw5
    go_wp2_with fail
    have p7 : Kp w6 (w6.alloc (.cells #[.bool b6, .slice A6 n6 c6] 24)) := ((Kp.refl w6).alloc (.cells #[.bool b6, .slice A6 n6 c6] 24))
    have bw7 : Below w.heap.size w (w6.alloc (.cells #[.bool b6, .slice A6 n6 c6] 24)) := (bw6.alloc (by first | omega | (simp <;> omega)) (.cells #[.bool b6, .slice A6 n6 c6] 24))
    have x7_0 : Blk (w6.alloc (.cells #[.bool b6, .slice A6 n6 c6] 24)) (w6.heap.size) 24 #[.bool b6, .slice A6 n6 c6] := (blkAt _ _ _ (by simp))
    replace x1_0 : Blk (w6.alloc (.cells #[.bool b6, .slice A6 n6 c6] 24)) (w.heap.size) 24 #[.bool b, .slice A n c] := (x1_0.alloc (.cells #[.bool b6, .slice A6 n6 c6] 24))
    replace x1_1 : Blk (w6.alloc (.cells #[.bool b6, .slice A6 n6 c6] 24)) (w.heap.size + 1) 24 #[.bool b', .slice A' n' c'] := (x1_1.alloc (.cells #[.bool b6, .slice A6 n6 c6] 24))
    replace x1_2 : Blk (w6.alloc (.cells #[.bool b6, .slice A6 n6 c6] 24)) (w.heap.size + 1 + 1) 24 #[.bool b, .slice A n c, .bool b', .slice A' n' c'] := (x1_2.alloc (.cells #[.bool b6, .slice A6 n6 c6] 24))
    replace x4_0 : Blk (w6.alloc (.cells #[.bool b6, .slice A6 n6 c6] 24)) (w3.heap.size) 24 #[.bool b3, .slice A3 n3 c3] := (x4_0.alloc (.cells #[.bool b6, .slice A6 n6 c6] 24))
    replace x4_1 : Blk (w6.alloc (.cells #[.bool b6, .slice A6 n6 c6] 24)) (w3.heap.size + 1) 24 #[.bool b'3, .slice A'3 n'3 c'3] := (x4_1.alloc (.cells #[.bool b6, .slice A6 n6 c6] 24))
    replace x5_0 : Blk (w6.alloc (.cells #[.bool b6, .slice A6 n6 c6] 24)) (w4.heap.size) 24 #[.bool b4, .slice A4 n4 c4] := (x5_0.alloc (.cells #[.bool b6, .slice A6 n6 c6] 24))
    replace x6_0 : Blk (w6.alloc (.cells #[.bool b6, .slice A6 n6 c6] 24)) (w5.heap.size) 24 #[.bool b5, .slice A5 n5 c5] := (x6_0.alloc (.cells #[.bool b6, .slice A6 n6 c6] 24))
    replace x6_1 : Blk (w6.alloc (.cells #[.bool b6, .slice A6 n6 c6] 24)) (w5.heap.size + 1) 24 #[.bool b'5, .slice A'5 n'5 c'5] := (x6_1.alloc (.cells #[.bool b6, .slice A6 n6 c6] 24))
    have lw7 : w6.heap.size + 1 ≤ (w6.alloc (.cells #[.bool b6, .slice A6 n6 c6] 24)).heap.size := by simp
    generalize hE7 : (w6.alloc (.cells #[.bool b6, .slice A6 n6 c6] 24)) = w7 at p7 bw7 lw7 x7_0 x1_0 x1_1 x1_2 x4_0 x4_1 x5_0 x6_0 x6_1 ⊢
    clear hE7
    replace H := H.keep p7
    replace H' := H'.keep p7
    replace h3 := h3.keep p7
    replace h'3 := h'3.keep p7
    replace h4 := h4.keep p7
    replace h5 := h5.keep p7
    replace h'5 := h'5.keep p7
    replace h6 := h6.keep p7
    clear bw6
    obtain ⟨cx1_0_0, cx1_0_1⟩ := x1_0.c2
    obtain ⟨lx1_0_0, lx1_0_1, lx1_0_2, lx1_0_3⟩ := lts0 x1_0.lt
    obtain ⟨cx1_1_0, cx1_1_1⟩ := x1_1.c2
    obtain ⟨lx1_1_0, lx1_1_1, lx1_1_2, lx1_1_3⟩ := lts1 x1_1.lt
    obtain ⟨lx1_2_0, lx1_2_1, lx1_2_2, lx1_2_3⟩ := lts2 x1_2.lt
    obtain ⟨cx4_0_0, cx4_0_1⟩ := x4_0.c2
    obtain ⟨lx4_0_0, lx4_0_1, lx4_0_2, lx4_0_3⟩ := lts0 x4_0.lt
    obtain ⟨cx4_1_0, cx4_1_1⟩ := x4_1.c2
    obtain ⟨lx4_1_0, lx4_1_1, lx4_1_2, lx4_1_3⟩ := lts1 x4_1.lt
    obtain ⟨cx5_0_0, cx5_0_1⟩ := x5_0.c2
    obtain ⟨lx5_0_0, lx5_0_1, lx5_0_2, lx5_0_3⟩ := lts0 x5_0.lt
    obtain ⟨cx6_0_0, cx6_0_1⟩ := x6_0.c2
    obtain ⟨lx6_0_0, lx6_0_1, lx6_0_2, lx6_0_3⟩ := lts0 x6_0.lt
    obtain ⟨cx6_1_0, cx6_1_1⟩ := x6_1.c2
    obtain ⟨lx6_1_0, lx6_1_1, lx6_1_2, lx6_1_3⟩ := lts1 x6_1.lt
    obtain ⟨cx7_0_0, cx7_0_1⟩ := x7_0.c2
    obtain ⟨lx7_0_0, lx7_0_1, lx7_0_2, lx7_0_3⟩ := lts0 x7_0.lt
    go_region_held3 (fun w' => Sees w7.heap.size w7 w') (first | with_reducible exact Sees.of (Nat.le_refl _) (by assumption) | with_reducible exact Sees.of (Nat.le_refl _) (brefl _).drew | exact Sees.of (Nat.le_refl _) (below_drewN (brefl _) 1) | exact Sees.of (Nat.le_refl _) (below_drewN (by assumption) _))
      (first
        | (go_at_call 15; (with_reducible refine (b_num_g _ v d HE.out.1).mono ?_); rintro e w8 ⟨rfl, hb8⟩; replace hb8 := bnext (below_drewN (brefl _) 1) hb8; have q8 : Below w7.heap.size w7 w8 := bnext (brefl w7) hb8; replace H := H.belw hb8; replace H' := H'.belw hb8; replace h3 := h3.belw hb8; replace h'3 := h'3.belw hb8; replace h4 := h4.belw hb8; replace h5 := h5.belw hb8; replace h'5 := h'5.belw hb8; replace h6 := h6.belw hb8)
        | (go_at_call 16; (with_reducible refine (s_same _ b3 A3 n3 c3 (q) ((30) + (30)) ?_ b5 A5 n5 c5 (q) ((30) + (30)) ?_  ?_ ?_).mono ?_); (exact h3); (exact h5); (exact rfl); (first | omega | decide | assumption); rintro e w9 ⟨rfl, hb9⟩; have q9 : Below w7.heap.size w7 w9 := bnext q8 hb9; replace H := H.belw hb9; replace H' := H'.belw hb9; replace h3 := h3.belw hb9; replace h'3 := h'3.belw hb9; replace h4 := h4.belw hb9; replace h5 := h5.belw hb9; replace h'5 := h'5.belw hb9; replace h6 := h6.belw hb9)
        | (go_at_call 16; (with_reducible refine (s_same _ b'3 A'3 n'3 c'3 (r) ((30) + (30)) ?_ b'5 A'5 n'5 c'5 (r) ((30) + (30)) ?_  ?_ ?_).mono ?_); (exact h'3); (exact h'5); (exact rfl); (first | omega | decide | assumption); rintro e w10 ⟨rfl, hb10⟩; have q10 : Below w7.heap.size w7 w10 := bnext q9 hb10; replace H := H.belw hb10; replace H' := H'.belw hb10; replace h3 := h3.belw hb10; replace h'3 := h'3.belw hb10; replace h4 := h4.belw hb10; replace h5 := h5.belw hb10; replace h'5 := h'5.belw hb10; replace h6 := h6.belw hb10)
        | (go_at_call 15; (with_reducible refine (b_num_g _ rv rd HE.out.2).mono ?_); rintro e w11 ⟨rfl, hb11⟩; have q11 : Below w7.heap.size w7 w11 := bnext q10 hb11; replace H := H.belw hb11; replace H' := H'.belw hb11; replace h3 := h3.belw hb11; replace h'3 := h'3.belw hb11; replace h4 := h4.belw hb11; replace h5 := h5.belw hb11; replace h'5 := h'5.belw hb11; replace h6 := h6.belw hb11)
        | (go_at_call 16; (with_reducible refine (s_same _ b4 A4 n4 c4 (s) ((30)) ?_ b6 A6 n6 c6 (s) ((30)) ?_  ?_ ?_).mono ?_); (exact h4); (exact h6); (exact rfl); (first | omega | decide | assumption); rintro e w12 ⟨rfl, hb12⟩; have q12 : Below w7.heap.size w7 w12 := bnext q11 hb12; replace H := H.belw hb12; replace H' := H'.belw hb12; replace h3 := h3.belw hb12; replace h'3 := h'3.belw hb12; replace h4 := h4.belw hb12; replace h5 := h5.belw hb12; replace h'5 := h'5.belw hb12; replace h6 := h6.belw hb12)
        | (go_at_call 17; (with_reducible refine (i_gcd_v _ b A n c (z) (30) ?_ b' A' n' c' (z') (30) ?_ HK0 g HC.out).mono ?_); (exact H); (exact H'); rintro e w13 ⟨b13, A13, n13, c13, rfl, h13, hb13⟩; have q13 : Below w7.heap.size w7 w13 := bnext q12 hb13; replace H := H.belw hb13; replace H' := H'.belw hb13; replace h3 := h3.belw hb13; replace h'3 := h'3.belw hb13; replace h4 := h4.belw hb13; replace h5 := h5.belw hb13; replace h'5 := h'5.belw hb13; replace h6 := h6.belw hb13)
        | (go_at_call 18; (with_reducible refine (r01_gcd_v _ b A n c (z) (30) ?_ b' A' n' c' (z') (30) ?_ HK0 g HC.out).mono ?_); (exact H); (exact H'); rintro e w14 ⟨b14, A14, n14, c14, rfl, h14, hb14⟩; have q14 : Below w7.heap.size w7 w14 := bnext q13 hb14; replace H := H.belw hb14; replace H' := H'.belw hb14; replace h3 := h3.belw hb14; replace h'3 := h'3.belw hb14; replace h4 := h4.belw hb14; replace h5 := h5.belw hb14; replace h'5 := h'5.belw hb14; replace h6 := h6.belw hb14; replace h13 := h13.belw hb14)
        | (go_at_call 16; (with_reducible refine (s_same _ b13 A13 n13 c13 (g) ((30) + (30)) ?_ b14 A14 n14 c14 (g) ((30) + (30)) ?_  ?_ ?_).mono ?_); (exact h13); (exact h14); (exact rfl); (first | omega | decide | assumption); rintro e w15 ⟨rfl, hb15⟩; have q15 : Below w7.heap.size w7 w15 := bnext q14 hb15; replace H := H.belw hb15; replace H' := H'.belw hb15; replace h3 := h3.belw hb15; replace h'3 := h'3.belw hb15; replace h4 := h4.belw hb15; replace h5 := h5.belw hb15; replace h'5 := h'5.belw hb15; replace h6 := h6.belw hb15; replace h13 := h13.belw hb15; replace h14 := h14.belw hb15))
    have bw15 : Below w.heap.size w w15 := bw7.trans (q15.mono bw7.size)
    clear cx1_0_0 cx1_0_1 lx1_0_0 lx1_0_1 lx1_0_2 lx1_0_3 cx1_1_0 cx1_1_1 lx1_1_0 lx1_1_1 lx1_1_2 lx1_1_3 lx1_2_0 lx1_2_1 lx1_2_2 lx1_2_3 cx4_0_0 cx4_0_1 lx4_0_0 lx4_0_1 lx4_0_2 lx4_0_3 cx4_1_0 cx4_1_1 lx4_1_0 lx4_1_1 lx4_1_2 lx4_1_3 cx5_0_0 cx5_0_1 lx5_0_0 lx5_0_1 lx5_0_2 lx5_0_3 cx6_0_0 cx6_0_1 lx6_0_0 lx6_0_1 lx6_0_2 lx6_0_3 cx6_1_0 cx6_1_1 lx6_1_0 lx6_1_1 lx6_1_2 lx6_1_3 cx7_0_0 cx7_0_1 lx7_0_0 lx7_0_1 lx7_0_2 lx7_0_3
    replace x1_0 := x1_0.below q15 x1_0.lt
    replace x1_1 := x1_1.below q15 x1_1.lt
    replace x1_2 := x1_2.below q15 x1_2.lt
    replace x4_0 := x4_0.below q15 x4_0.lt
    replace x4_1 := x4_1.below q15 x4_1.lt
    replace x5_0 := x5_0.below q15 x5_0.lt
    replace x6_0 := x6_0.below q15 x6_0.lt
    replace x6_1 := x6_1.below q15 x6_1.lt
    replace x7_0 := x7_0.below q15 x7_0.lt
    have lw15 : w7.heap.size ≤ w15.heap.size := q15.size
    go_wp2_with fail
    go_ret
    exact retB rfl bw15
end Go.Proofs.YtkehcfclggmblaaDoor

namespace Go.Proofs.YtkehcfclggmblaaDoor
open Go Go.RowKit Bn Go.ChangeShapes Go.WideShapes Go.ChangeAt
set_option maxRecDepth 100000 in
theorem divides_contract (H : Type) (enc : TypeId × Value → H) (W : World) (base : Nat) (args : Array Value) (ds gs : List (DataW H)) (before : List MemPlace)
    (hval0 : ∀ (j : Nat) t v, Tryd.f3.params[j]? = some t → args[j]? = some v → Value.okWide Tryd.prog W .any base t v)
    (hW : DataW.Whole enc Tryd.prog Tryd.f3.params.toList Rows.integerDividesSpec.vars false W args.toList ds gs before) (hL : laidMetH Tryd.prog Rows.integerDividesRow.laid W) :
    Calls Tryd.prog 3 args W fun e W' => ∃ v, e = .returned v ∧ Rows.integerDividesSpec.post enc Tryd.prog Tryd.f3 false true false false W args v W' := by
  have hval : ∀ (j : Nat) t v, Tryd.f3.params[j]? = some t → args[j]? = some v → Value.okWide Tryd.prog W .any base t v := hval0
  have htab : Tab W := tab_of_laid hL
  have hW' := hW
  obtain ⟨p, q, hA0, hV, rfl, hfz, hnd⟩ := hW
  have hA : DataW.TrodAll enc Tryd.prog W 0 (fun _ => true) true Tryd.f3.params.toList args.toList ds p := hA0
  rw [Tryd.params3] at hA hval
  obtain ⟨v0, v1, d0, d1, p0, p1, rfl, rfl, rfl, h0, h1⟩ := trodAll_two hA
  obtain ⟨rfl, rfl⟩ := trodVars_none hV
  obtain ⟨b, A, n, c, z, k, rfl, H⟩ := whole_open (hval 0 _ v0 rfl rfl) h0
  obtain ⟨b', A', n', c', z', k', rfl, H'⟩ := whole_open (hval 1 _ v1 rfl rfl) h1
  refine (l_IntegerDivides W b A n c z k H b' A' n' c' z' k' H' htab).mono fun e W' ⟨he, hb⟩ => ?_
  subst he
  exact ⟨_, rfl, law_post laid_out Tryd.underlying4 hW' rfl rfl (by kernel_rfl) rfl rfl rfl hb⟩
set_option maxRecDepth 100000 in
theorem divides_lifted (os : Os) (started : os.Started) (H : Type) (enc : TypeId × Value → H) (F : Stop.Interp) :
    ReturnsInHanded {} Tryd.checked os 3 .any ((OpenSpec.ofChange Rows.integerDividesSpec).preRow enc Tryd.prog Tryd.f3 Rows.integerDividesRow.domain false Rows.integerDividesRow.laid) (((OpenSpec.ofChange Rows.integerDividesSpec).at F).post enc Tryd.prog Tryd.f3 false true false false) := by
  have hx : DataW.whole enc Tryd.prog ((laidWorld os).forCall (fun _ _ => 0) ⟨#[], #[.agg #[.bool false, .slice none 0 0], .agg #[.bool false, .slice none 0 0]], []⟩).memory Tryd.f3.params.toList Rows.integerDividesSpec.vars false (#[.agg #[.bool false, .slice none 0 0], .agg #[.bool false, .slice none 0 0]] : Array Value).toList 8 = some ([.agg [.lit (.bool false), .nil], .agg [.lit (.bool false), .nil]], [], []) := by kernel_rfl
  have hl : laidMet Tryd.prog Rows.integerDividesRow.laid ((laidWorld os).forCall (fun _ _ => 0) ⟨#[], #[.agg #[.bool false, .slice none 0 0], .agg #[.bool false, .slice none 0 0]], []⟩).memory := laidMet_of_run' 8 (by kernel_rfl) (by kernel_rfl)
  refine returnsInHanded_of_row (C := Tryd.checked) (s := OpenSpec.ofChange Rows.integerDividesSpec) own_knob started (by kernel_rfl) Tryd.func3
    (witness_row_at (enc := enc) (C := Tryd.checked) false (laidWorld os) #[.agg #[.bool false, .slice none 0 0], .agg #[.bool false, .slice none 0 0]] rfl (by kernel_rfl) (by kernel_rfl) (by kernel_rfl)
      (OpenSpec.preRow_of_cond 8 hx (by kernel_rfl) (fun k hk => by cases hk) (by kernel_rfl) hl)) ?_
  intro W base args ds gs before hval hW _ _ _ hL _ _
  exact divides_contract H enc W base args ds gs before hval hW hL
theorem divides_said : Rows.IntegerDividesSaid :=
  OpenClaim.holds_of_cond 3 Tryd.f3 rfl rfl rfl rfl rfl rfl rfl ⟨rfl, rfl, rfl, rfl, rfl⟩ rfl rfl rfl rfl rfl (by kernel_rfl) Tryd.func3 (by kernel_rfl)
    (of_decide_eq_true (by kernel_rfl)) (by unfold Func.isWrapper; first | (rw [if_pos (by decide +kernel)]; kernel_rfl) | (rw [if_neg (by decide +kernel)]; exact ⟨rfl, rfl⟩))
    (fun os started H enc _ F => by rw [OpenClaim.pre_eq_preRow]; exact divides_lifted os started H enc F)
theorem divides_plain (f : FuncId) (fn : Func) (hf : Tryd.pinned.checked.prog.funcNamed "linkwork/linkworklaw01.IntegerDivides" = some f) (hfn : Tryd.pinned.checked.prog.funcs[f]? = some fn) :
    true = Tryd.pinned.checked.prog.looks [] ∧ ∀ (j : Nat) t, fn.params[j]? = some t → Tryd.pinned.checked.prog.wantsStandIn t = false := by
  obtain rfl : f = 3 := Option.some.inj ((show Tryd.prog.funcNamed "linkwork/linkworklaw01.IntegerDivides" = some 3 by kernel_rfl).symm.trans hf) |>.symm
  obtain rfl : fn = Tryd.f3 := (Option.some.inj (Tryd.func3.symm.trans hfn)).symm
  refine ⟨by kernel_rfl, fun j t ht => ?_⟩
  rw [Tryd.params3] at ht
  have hm : t ∈ [24, 3] := by
    have := Array.mem_of_getElem? ht
    simp at this ⊢
    first
      | exact this
      | exact .inl this
  have hall : ([24, 3].all fun u => !Tryd.prog.wantsStandIn u) = true := by kernel_rfl
  exact (show Tryd.prog.wantsStandIn t = false by simpa using List.all_eq_true.1 hall t hm)
theorem divides_holds : Rows.IntegerDividesCardSaid :=
  Claim7.holds_tied_plain_at .later [] _ _ _ _ divides_said (fun _ h => by cases h) (by kernel_rfl) (fun _ h => by cases h) integerDivides_row_tie rfl ⟨rfl, rfl⟩ (by kernel_rfl) rfl divides_plain (by kernel_rfl)
end Go.Proofs.YtkehcfclggmblaaDoor
