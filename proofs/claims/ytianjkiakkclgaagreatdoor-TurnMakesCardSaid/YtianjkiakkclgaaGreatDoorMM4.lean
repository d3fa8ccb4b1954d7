/- Part MM4: lemmas and walks that the claim rests on. No claim is made here. -/
import Derived.BigQuiet
import Derived.Deep.RegionHeld3
import Derived.Deep.DrawnRows
import Derived.Deep.DeepCutAuto
import Derived.Lib.ItoaNum
import Derived.Lib.ItoaMem
import Derived.Lib.Repeat
import Derived.Lib.Join
import Derived.Lib.IndexMore
import Derived.Lib.AppendIntMem
import Derived.Laws.OwnMore
import Derived.Deep.AppendLies
import Derived.Lib.Atoi
import Derived.Lib.SlTrimSet
import Derived.Shelf.Strings.SlTrimAscii
import Derived.WalkSpells
import Derived.Test.YtianjkiakkclgaaGreatDoorMM3
set_option linter.unusedVariables false
set_option maxHeartbeats 8000000
set_option maxRecDepth 100000
/- Walks: the reference's division. -/
namespace Go.Proofs.YtianjkiakkclgaaGreatDoor
open Go Go.RowKit Bn
attribute [local go_sem ↓] Go.wp_at_zero Go.wp_at_succ

theorem val_rep (m : Nat) : val (List.replicate m 0) = 0 := by
  induction m with
  | zero => rfl
  | succ m ih => rw [List.replicate_succ, val, ih]
theorem wds_rep (m : Nat) : Wds (List.replicate m 0) := by intro x hx; rw [List.eq_of_mem_replicate hx]; omega
theorem words_cells (l : List Nat) : (cellsOf l).toList = words l := by simp [cellsOf, words]
theorem OwS.made (w : World) {B : Nat} (L : List Nat) (n : Nat) (hB : B ≤ w.heap.size) (hn : n ≤ 4398046511104) (hL : L.length = n) (hW : Wds L) : OwS (w.alloc (.cells (cellsOf L) 100)) B w.heap.size n n L := by
  refine ⟨?_, hW⟩
  rw [← words_cells]
  exact World.ownsRow_lit w (cellsOf L) n hB (by unfold maxLen; omega) (by simp [cellsOf, hL])
theorem OwS.far {w : World} {B g n cap : Nat} {l : List Nat} (h : OwS w B g n cap l) {p : Addr} (hp : g ≠ p.block) (u : Value) : OwS (w.setCell p u) B g n cap l := by
  refine ⟨⟨h.1.1, ?_⟩, h.2⟩
  rcases h.1.2 with ⟨e, _⟩ | ⟨g', c', cur, e, hB, hgg, r⟩
  · cases e
  · have e' := e
    injection e with e1 _ e2; injection e1 with e1; injection e1 with e1; subst e1
    exact .inr ⟨g, c', cur, e', hB, (Below.heap_setCell w p u g hp).trans hgg, r⟩
theorem or_word {u p s : Nat} (hu : u + p < 4294967296) (ho : u ||| p = u + p) (hp : 2 ^ s = p) : bits .or .u32 (u : Int) ((2 : Int) ^ s % 4294967296) = ((u + p : Nat) : Int) := by
  have e : (2 : Int) ^ s % 4294967296 = (p : Int) := by
    have h : (2 : Int) ^ s = ((2 ^ s : Nat) : Int) := by simp
    rw [h, hp]; omega
  rw [e, ← ho]
  exact u32_or_nat u p (by omega) (by omega)
theorem q_in {q m : Nat} : (2 * q + 1) * 2 ^ m = q * 2 ^ (m + 1) + 2 ^ m := by rw [Nat.pow_succ]; grind
theorem q_out {q m : Nat} : (2 * q) * 2 ^ m = q * 2 ^ (m + 1) := by rw [Nat.pow_succ]; grind
def DivO (a b : Nat) (Lq Lr : List Nat) (k : Nat) : Prop := val Lq = a / 2 ^ k / b * 2 ^ k ∧ val Lr = a / 2 ^ k % b
theorem r_divide_c (w : World) (A n c l) (wa : Wd w A n c l) (hn : n ≤ 1000000000000) (A' n' c' l') (wb : Wd w A' n' c' l') (hn' : n' ≤ 1000000000000) (h0 : val l' ≠ 0) :
  Calls Tryz.prog 134 #[.slice A n c, .slice A' n' c'] w (RetD w (val l) (val l')) := by
 have HL := Lib.hid wa.2.1
 have HL' := Lib.hid wb.2.1
 obtain ⟨va, hva⟩ : ∃ v, val l = v := ⟨_, rfl⟩
 obtain ⟨vb, hvb⟩ : ∃ v, val l' = v := ⟨_, rfl⟩
 have HA := Lib.hid hva
 have HB := Lib.hid hvb
 rw [hvb] at h0
 have H0 := Lib.hid (Nat.pos_of_ne_zero h0)
 rw [hva, hvb]
 obtain ⟨gb, ob, rfl, hgb, _⟩ := wb.at2 (by
  rcases Nat.eq_zero_or_pos n' with e | e
  ·exfalso
   have h9 := HL'.out
   rw [e] at h9
   rw [List.eq_nil_of_length_eq_zero h9.symm] at hvb
   exact h0 hvb.symm
  ·exact e)
 clear h0 hva hvb
 go_enter Tryz.func134, Tryz.ntmps134
 go_wp2_with (first
  | (at_make; refine wpList_make_words _ rfl _ _ rfl _ _ _ _ n rfl rfl (by omega) (by omega) (by omega) ?_)
  | (at_make; refine wpList_make_words _ rfl _ _ rfl _ _ _ _ (n' + 1) rfl rfl (by omega) (by omega) (by omega) ?_))
 (with_reducible refine (r_bits_c _ A n c l ?_ (by omega)).mono ?_); (exact wa.keep (((Kp.refl w).alloc _).alloc _)); rintro e w1 ⟨N, rfl, hN1, hN2, rfl⟩
 rw [HA.out] at hN1
 go_wp2_with fail
 have oq0 : OwS ((w.alloc (.cells (cellsOf (List.replicate n 0)) 100)).alloc (.cells (cellsOf (List.replicate (n' + 1) 0)) 100)) w.heap.size w.heap.size n n (List.replicate n 0) :=
  (OwS.made w (List.replicate n 0) n (Nat.le_refl _) (by omega) (by simp) (wds_rep n)).belw ((brefl _).alloc (Nat.le_refl _) _)
 have or0 : OwS ((w.alloc (.cells (cellsOf (List.replicate n 0)) 100)).alloc (.cells (cellsOf (List.replicate (n' + 1) 0)) 100)) w.heap.size (w.heap.size + 1) (n' + 1) (n' + 1) (List.replicate (n' + 1) 0) := by
  have h := OwS.made (w.alloc (.cells (cellsOf (List.replicate n 0)) 100)) (B := w.heap.size) (List.replicate (n' + 1) 0) (n' + 1) (by simp) (by omega) (by simp) (wds_rep _)
  simpa using h
 have HO := Lib.hid (And.intro oq0 or0)
 clear oq0 or0
 go_loopw [8] (fun iv wr => ∃ (k : Nat) (z : Int) (Lq Lr : List Nat), k ≤ N ∧ iv = .int .i64 z ∧ z + 1 = (k : Int) ∧ DivO va vb Lq Lr k ∧ OwS wr w.heap.size w.heap.size n n Lq ∧ OwS wr w.heap.size (w.heap.size + 1) (n' + 1) (n' + 1) Lr ∧ Below w.heap.size w wr) (fun iv _ => (intOf iv + 1).toNat)
 case atStart =>
  refine ⟨N, (N : Int) - 1, _, _, Nat.le_refl _, by go_num, by omega, ⟨?_, ?_⟩, HO.out.1, HO.out.2, ((brefl w).alloc (Nat.le_refl _) _).alloc (by simp) _⟩
  ·rw [val_rep, Nat.div_eq_of_lt hN1]; simp
  ·rw [val_rep, Nat.div_eq_of_lt hN1]; simp
 case round =>
  obtain ⟨k, z, Lq, Lr, hk, rfl, hz, hI, hq, hr, hbel⟩ := hrel
  have HK := Lib.hid ((Kp.refl w).below hbel)
  have HI := Lib.hid hI
  have HQ := Lib.hid hq
  have HR := Lib.hid hr
  have HBL := Lib.hid hbel
  clear hI hq hr hbel HO
  by_cases hk0 : k = 0
  ·subst hk0
   have ez : z = -1 := by omega
   subst ez
   go_wp2_with fail
   (with_reducible refine (r_trim_c _ (some ⟨w.heap.size, 0, none⟩) n n Lq ?_ (by omega)).mono ?_); (exact HQ.out.toWd); rintro e w1 ⟨A1, n1, c1, rfl, h1, hb1⟩
   have HR2 := Lib.hid (HR.out.belw hb1)
   have HBL2 := Lib.hid (HBL.out.trans (hb1.mono HBL.out.size))
   clear hb1
   go_wp2_with fail
   (with_reducible refine (r_trim_c _ (some ⟨w.heap.size + 1, 0, none⟩) (n' + 1) (n' + 1) Lr ?_ (by omega)).mono ?_); (exact HR2.out.toWd); rintro e w2 ⟨A2, n2, c2, rfl, h2, hb2⟩
   have h1' := h1.keep ((Kp.refl w1).below hb2)
   have HBL3 := HBL2.out.trans (hb2.mono HBL2.out.size)
   rw [HI.out.1] at h1'
   rw [HI.out.2] at h2
   simp only [Nat.pow_zero, Nat.div_one, Nat.mul_one] at h1' h2
   have HF := Lib.hid (And.intro h1' (And.intro h2 HBL3))
   clear h1 h1' h2 HBL3 hb2
   go_wp2
   refine bodyPost_ret (v := .tuple #[.slice A1 n1 c1, .slice A2 n2 c2]) (by simp [results, Tryz.results134, go_sem]) rfl ?_
   exact ⟨A1, n1, c1, A2, n2, c2, rfl, HF.out.1, HF.out.2.1, HF.out.2.2⟩
  ·obtain ⟨m, rfl⟩ : ∃ m, k = m + 1 := ⟨k - 1, by omega⟩
   have ez : z = (m : Int) := by omega
   subst ez
   have hm32 : m / 32 < n := by omega
   obtain ⟨ga, oa, rfl, hgl, hca⟩ := (wa.keep HK.out).at2 (by omega)
   have hcx := hca (m / 32) hm32
   obtain ⟨x, hx⟩ : ∃ x, wd l (m / 32) = x := ⟨_, rfl⟩
   have hx1 : x < 4294967296 := by rw [← hx]; exact wa.lt _
   rw [hx] at hcx
   have HX := Lib.hid hx
   obtain ⟨br, hbr⟩ : ∃ d, bits .and .u32 ((x : Int) / 2 ^ (m % 32)) 1 = d := ⟨_, rfl⟩
   obtain ⟨b, hb⟩ : ∃ b, va / 2 ^ m % 2 = b := ⟨_, rfl⟩
   have hbb : br = (b : Int) := by
    rw [← hbr, ← hb, ← HA.out, ← wd_bit wa.1 m, hx]
    have e : (x : Int) / 2 ^ (m % 32) = ((x / 2 ^ (m % 32) : Nat) : Int) := by simp
    rw [e, and_one _ (Nat.lt_of_le_of_lt (Nat.div_le_self _ _) hx1)]
   have HB1 := Lib.hid hb
   have hb1 : b ≤ 1 := by omega
   clear hca hx hz hk0 hb
   go_wp2_with fail
   try rw [hbb]
   clear hbr hbb
   go_loopw [9, 36] (fun cv kv w2 => ∃ (k cr : Nat) (L2 : List Nat), k ≤ n' + 1 ∧ kv = .int .i64 (k : Nat) ∧ cv = .int .u32 (cr : Nat) ∧ cr ≤ 1 ∧ DblI Lr L2 b k cr ∧ OwS w2 w.heap.size w.heap.size n n Lq ∧ OwS w2 w.heap.size (w.heap.size + 1) (n' + 1) (n' + 1) L2 ∧ Below w.heap.size w w2) (fun _ kv _ => n' + 1 - (intOf kv).toNat)
   case atStart => exact ⟨0, b, Lr, Nat.zero_le _, rfl, rfl, hb1, DblI.start _ _, HQ.out, HR.out, HBL.out⟩
   case round =>
    obtain ⟨k, cr, L2, hk2, rfl, rfl, hcr, hI2, hq2, hr2, hbel2⟩ := hrel
    have HI2 := Lib.hid hI2
    have HQ2 := Lib.hid hq2
    have HR2 := Lib.hid hr2
    have HBL2 := Lib.hid hbel2
    clear hI2 hq2 hr2 hbel2
    by_cases hkk : k < n' + 1
    ·obtain ⟨y, hy⟩ : ∃ y, wd Lr k = y := ⟨_, rfl⟩
     have hy1 : y < 4294967296 := by rw [← hy]; exact wd_lt HR.out.2 _
     have hck := HR2.out.cell k hkk
     rw [HI2.out.1 k (Nat.le_refl _), hy] at hck
     have hfk := HR2.out.frozen k
     have HY := Lib.hid hy
     obtain ⟨s, hs⟩ : ∃ s, bits .or .u32 ((y : Int) * 2 % 4294967296) (cr : Int) = s := ⟨_, rfl⟩
     have he : s = ((y * 2 % 4294967296 + cr : Nat) : Int) := by
      rw [← hs, ← (dbl_word hcr hy1).1]
      exact u32_or_nat (y * 2 % 4294967296) cr (Nat.mod_lt _ (by decide)) (by omega)
     have HE := Lib.hid he
     have HS := Lib.hid (dbl_word hcr hy1).2
     clear hy he
     go_wp2
     go_region
     clear hs
     go_wp2
     go_roundw
     case rel =>
      have hst := HI2.out.step HY.out hy1 (by rw [← HR2.out.len]; exact hkk)
      refine ⟨k + 1, y / 2147483648, L2.set k (y * 2 % 4294967296 + cr), by omega, by go_num, by go_num, HS.out.2, hst, ?_, ?_, ?_⟩
      ·exact OwS.far (w := wr) HQ2.out (p := ⟨w.heap.size + 1, k, none⟩) (by simp) _
      ·exact OwS.set (w := wr) HR2.out k HS.out.1 HE.out
      ·exact (Below.setCell HBL2.out (p := ⟨w.heap.size + 1, k, none⟩) (by simp) _).drew
     case measure => simp [intOf]; omega
    ·have hkn : k = n' + 1 := by omega
     subst hkn
     have hv2 : val L2 = 2 * val Lr + b := by
      have h3 := HR2.out.len
      have h4 := HR.out.len
      refine DblI.fin HI2.out (by omega) (by omega) ?_
      refine dbl_room (v := vb) ?_ ?_ hb1
      ·rw [HI.out.2]; exact Nat.mod_lt _ H0.out
      ·rw [← HB.out, HL'.out]; exact val_lt wb.1
     rw [HI.out.2, ← HB1.out] at hv2
     obtain ⟨r2, hr2⟩ : ∃ r, val L2 = r := ⟨_, rfl⟩
     rw [hr2] at hv2
     have HV := Lib.hid hv2
     have HR2v := Lib.hid hr2
     clear hv2 hr2
     by_cases hge : vb ≤ r2
     ·have hc0 : 0 ≤ cmpN r2 vb := by unfold cmpN; (repeat' split) <;> omega
      obtain ⟨cv, hcv⟩ : ∃ cv, cmpN r2 vb = cv := ⟨_, rfl⟩
      rw [hcv] at hc0
      have HC := Lib.hid hcv
      clear hcv
      go_wp2_with fail
      (with_reducible refine (r_compare_c _ (some ⟨w.heap.size + 1, 0, none⟩) (n' + 1) (n' + 1) L2 ?_ ?_ (some ⟨gb, ob, none⟩) n' c' l' ?_ ?_).mono ?_); (exact HR2.out.toWd); (omega); (exact wb.keep ((Kp.refl w).below HBL2.out)); (omega); rintro e w1 ⟨rfl, hbl1⟩
      rw [HR2v.out, HB.out, HC.out]
      have HQ3 := Lib.hid (HQ2.out.belw hbl1)
      have HR3 := Lib.hid (HR2.out.belw hbl1)
      have HBL3 := Lib.hid (HBL2.out.trans (hbl1.mono HBL2.out.size))
      clear hbl1 HQ2 HR2 HBL2
      go_wp2_with fail
      (with_reducible refine (r_take_o _ w.heap.size (w.heap.size + 1) (n' + 1) (n' + 1) L2 ?_ ?_ (some ⟨gb, ob, none⟩) n' c' l' ?_ ?_ ?_ ?_).mono ?_)
      ·exact HR3.out
      ·omega
      ·exact wb.keep ((Kp.refl w).below HBL3.out)
      ·intro ad e; injection e with e; subst e; show gb ≠ _; omega
      ·omega
      ·rw [HR2v.out, HB.out]; exact hge
      rintro e w2 ⟨L3, rfl, hr3, hv3, hon⟩
      rw [HR2v.out, HB.out] at hv3
      have hq3 := hon.own HQ3.out (by omega)
      have HBL4 := Lib.hid (HBL3.out.trans (hon.1.mono (by omega)))
      have HR4 := Lib.hid hr3
      have HV3 := Lib.hid hv3
      obtain ⟨u, hu⟩ : ∃ u, wd Lq (m / 32) = u := ⟨_, rfl⟩
      have hcq := hq3.cell (m / 32) hm32
      have hfq := hq3.frozen (m / 32)
      rw [hu] at hcq
      have hob := or_bit HQ.out.2 m (by rw [← HQ.out.len]; exact hm32) HI.out.1
      rw [hu] at hob
      obtain ⟨p, hp⟩ : ∃ p, 2 ^ (m % 32) = p := ⟨_, rfl⟩
      rw [hp] at hob
      have HQ4 := Lib.hid hq3
      have HOB := Lib.hid hob
      have HU := Lib.hid hu
      have HP := Lib.hid hp
      clear hr3 hv3 hon hq3 HQ3 HR3 HBL3 hu hob hp
      go_wp2
      go_region
      go_wp2
      go_roundw
      case rel =>
       have hbi := bit_in (a := va) (k := m) HV.out hge H0.out
       have he := or_word HOB.out.2.1 HOB.out.1 HP.out
       refine ⟨m, (m : Int) - 1, Lq.set (m / 32) (u + p), L3, by omega, by go_num, by omega, ⟨?_, ?_⟩, ?_, ?_, ?_⟩
       ·rw [HOB.out.2.2, HI.out.1, hbi.1, q_in]
       ·rw [HV3.out, hbi.2]
       ·exact OwS.set (w := w2) HQ4.out (m / 32) HOB.out.2.1 he
       ·exact OwS.far (w := w2) HR4.out (p := ⟨w.heap.size, m / 32, none⟩) (by simp) _
       ·exact (Below.setCell HBL4.out (p := ⟨w.heap.size, m / 32, none⟩) (by simp) _).drew
      case measure => simp [intOf] <;> omega
     ·have hc0 : cmpN r2 vb < 0 := by unfold cmpN; (repeat' split) <;> omega
      obtain ⟨cv, hcv⟩ : ∃ cv, cmpN r2 vb = cv := ⟨_, rfl⟩
      rw [hcv] at hc0
      have HC := Lib.hid hcv
      clear hcv
      go_wp2_with fail
      (with_reducible refine (r_compare_c _ (some ⟨w.heap.size + 1, 0, none⟩) (n' + 1) (n' + 1) L2 ?_ ?_ (some ⟨gb, ob, none⟩) n' c' l' ?_ ?_).mono ?_); (exact HR2.out.toWd); (omega); (exact wb.keep ((Kp.refl w).below HBL2.out)); (omega); rintro e w1 ⟨rfl, hbl1⟩
      rw [HR2v.out, HB.out, HC.out]
      have HQ3 := Lib.hid (HQ2.out.belw hbl1)
      have HR3 := Lib.hid (HR2.out.belw hbl1)
      have HBL3 := Lib.hid (HBL2.out.trans (hbl1.mono HBL2.out.size))
      clear hbl1 HQ2 HR2 HBL2
      go_wp2
      go_roundw
      case rel =>
       have hbi := bit_out (a := va) (k := m) HV.out (by omega)
       refine ⟨m, (m : Int) - 1, Lq, L2, by omega, by go_num, by omega, ⟨?_, ?_⟩, HQ3.out, HR3.out, HBL3.out⟩
       ·rw [HI.out.1, hbi.1, q_out]
       ·rw [HR2v.out, hbi.2]
      case measure => simp [intOf] <;> omega
end Go.Proofs.YtianjkiakkclgaaGreatDoor

/- Walks: the reference's Div, of a dividend that is not negative or that the divisor divides. -/
namespace Go.Proofs.YtianjkiakkclgaaGreatDoor
open Go Go.RowKit Bn
attribute [local go_sem ↓] Go.wp_at_zero Go.wp_at_succ
theorem r_neg_e (w : World) (b : Bool) (A : Option Addr) (n c : Nat) (l : List Nat) (s : Bool) (wa : Wd w A n c l) (hn : n ≤ 1099511627776) (hs : WD.s ⟨b, l⟩ = s) :
    Calls Tryz.prog 102 #[.agg #[.bool b, .slice A n c]] w (RetV w (.bool s)) := by subst hs; exact r_neg_c w b A n c l wa hn
theorem r_sign_x (w : World) (b : Bool) (A : Option Addr) (n c : Nat) (l : List Nat) (s : Int) (wa : Wd w A n c l) (hn : n ≤ 1099511627000) (hs : (WD.z ⟨b, l⟩).sign = s) :
    Calls Tryz.prog 71 #[.agg #[.bool b, .slice A n c]] w (RetV w (.int .i64 s)) := by subst hs; exact r_sign_c w b A n c l wa hn
theorem r_divide_e (w : World) (A n c l) (wa : Wd w A n c l) (hn : n ≤ 1000000000000) (A' n' c' l') (wb : Wd w A' n' c' l') (hn' : n' ≤ 1000000000000) (x y : Nat) (hx : val l = x) (hy : val l' = y) (h0 : y ≠ 0) :
    Calls Tryz.prog 134 #[.slice A n c, .slice A' n' c'] w (RetD w x y) := by subst hx hy; exact r_divide_c w A n c l wa hn A' n' c' l' wb hn' h0
def RetDivR (w : World) (q r : Int) (e : Ending) (w' : World) : Prop := ∃ A1 n1 c1 A2 n2 c2, e = .returned (.tuple #[.agg #[.bool (wh q).neg, .slice A1 n1 c1], .agg #[.bool (wh r).neg, .slice A2 n2 c2], .int .i64 0]) ∧ Wd w' A1 n1 c1 (wh q).mag ∧ Wd w' A2 n2 c2 (wh r).mag ∧ Below w.heap.size w w'
theorem r_div_C (w : World) (b : Bool) (A n c l) (wa : Wd w A n c l) (hn : n ≤ 1000000000000) (b' : Bool) (A' n' c' l') (wb : Wd w A' n' c' l') (hn' : n' ≤ 1000000000000) (h0 : WD.z ⟨b', l'⟩ ≠ 0) (hr0 : WD.z ⟨b, l⟩ % WD.z ⟨b', l'⟩ = 0) :
    Calls Tryz.prog 99 #[.agg #[.bool b, .slice A n c], .agg #[.bool b', .slice A' n' c']] w (RetDivR w (WD.z ⟨b, l⟩ / WD.z ⟨b', l'⟩) (WD.z ⟨b, l⟩ % WD.z ⟨b', l'⟩)) := by
  have HL := Lib.hid wa.2.1
  have HL' := Lib.hid wb.2.1
  obtain ⟨s0, hs0'⟩ : ∃ s, (WD.z ⟨b', l'⟩).sign = s := ⟨_, rfl⟩
  have es0 : ((s0 : Int) == 0) = false := by simp; rintro rfl; exact h0 (Int.sign_eq_zero_iff_zero.1 hs0')
  have HSG := Lib.hid hs0'
  clear hs0'
  have hd0 : val (WD.m ⟨b', l'⟩) ∣ val (WD.m ⟨b, l⟩) := by
    rw [← z_nat ⟨b, l⟩, ← z_nat ⟨b', l'⟩]
    exact Int.natAbs_dvd_natAbs.2 (Int.dvd_of_emod_eq_zero hr0)
  rw [WD.z_eq] at h0 ⊢
  rw [WD.z_eq ⟨b', l'⟩]
  have hv2 : val (WD.m ⟨b', l'⟩) ≠ 0 := by intro e; rw [e] at h0; exact h0 (by cases (WD.s ⟨b', l'⟩) <;> rfl)
  obtain ⟨sa, hsa⟩ : ∃ s, WD.s ⟨b, l⟩ = s := ⟨_, rfl⟩
  obtain ⟨sb, hsb⟩ : ∃ s, WD.s ⟨b', l'⟩ = s := ⟨_, rfl⟩
  rw [hsa, hsb]
  obtain ⟨x, hx⟩ : ∃ x, val (WD.m ⟨b, l⟩) = x := ⟨_, rfl⟩
  obtain ⟨y, hy⟩ : ∃ y, val (WD.m ⟨b', l'⟩) = y := ⟨_, rfl⟩
  rw [hx, hy]
  rw [hx, hy] at hd0
  have HS := Lib.hid (And.intro hsa hsb)
  have HX := Lib.hid (And.intro hx hy)
  have HY := Lib.hid (show y ≠ 0 from hy ▸ hv2)
  have HR0 := Lib.hid (Nat.mod_eq_zero_of_dvd hd0)
  clear hsa hsb hx hy hv2 h0 hr0 hd0
  go_enter Tryz.func99, Tryz.ntmps99
  go_wp2_with fail
  have b0 : Below w.heap.size w ((((w.alloc (.cells #[.bool b, .slice A n c] 77)).alloc (.cells #[.bool b', .slice A' n' c'] 77)).alloc (.cells #[.bool false, .slice none 0 0] 77)).alloc (.cells #[.bool false, .slice none 0 0] 77)) := (((((Below.refl _ _).alloc (Nat.le_refl _) _).alloc (by simp) _).alloc (by simp; omega) _).alloc (by simp; omega) _)
  generalize hW0 : ((((w.alloc (.cells #[.bool b, .slice A n c] 77)).alloc (.cells #[.bool b', .slice A' n' c'] 77)).alloc (.cells #[.bool false, .slice none 0 0] 77)).alloc (.cells #[.bool false, .slice none 0 0] 77)) = W0 at b0 ⊢
  have c00 : W0.cell? ⟨w.heap.size, 0, none⟩ = some (.bool b) := by subst hW0; simp [go_sem]
  have f00 : W0.frozen? ⟨w.heap.size, 0, none⟩ = false := by subst hW0; simp [go_sem]
  have c01 : W0.cell? ⟨w.heap.size, 1, none⟩ = some (.slice A n c) := by subst hW0; simp [go_sem]
  have f01 : W0.frozen? ⟨w.heap.size, 1, none⟩ = false := by subst hW0; simp [go_sem]
  have c10 : W0.cell? ⟨w.heap.size + 1, 0, none⟩ = some (.bool b') := by subst hW0; simp [go_sem]
  have f10 : W0.frozen? ⟨w.heap.size + 1, 0, none⟩ = false := by subst hW0; simp [go_sem]
  have c11 : W0.cell? ⟨w.heap.size + 1, 1, none⟩ = some (.slice A' n' c') := by subst hW0; simp [go_sem]
  have f11 : W0.frozen? ⟨w.heap.size + 1, 1, none⟩ = false := by subst hW0; simp [go_sem]
  have c20 : W0.cell? ⟨w.heap.size + 1 + 1, 0, none⟩ = some (.bool false) := by subst hW0; simp [go_sem]
  have f20 : W0.frozen? ⟨w.heap.size + 1 + 1, 0, none⟩ = false := by subst hW0; simp [go_sem]
  have c21 : W0.cell? ⟨w.heap.size + 1 + 1, 1, none⟩ = some (.slice none 0 0) := by subst hW0; simp [go_sem]
  have f21 : W0.frozen? ⟨w.heap.size + 1 + 1, 1, none⟩ = false := by subst hW0; simp [go_sem]
  have c30 : W0.cell? ⟨w.heap.size + 1 + 1 + 1, 0, none⟩ = some (.bool false) := by subst hW0; simp [go_sem]
  have f30 : W0.frozen? ⟨w.heap.size + 1 + 1 + 1, 0, none⟩ = false := by subst hW0; simp [go_sem]
  have c31 : W0.cell? ⟨w.heap.size + 1 + 1 + 1, 1, none⟩ = some (.slice none 0 0) := by subst hW0; simp [go_sem]
  have f31 : W0.frozen? ⟨w.heap.size + 1 + 1 + 1, 1, none⟩ = false := by subst hW0; simp [go_sem]
  have x0 : Box W0 w.heap.size 77 := by subst hW0; exact (((boxAt _ _ _ (by simp)).alloc _).alloc _).alloc _
  have x1 : Box W0 (w.heap.size + 1) 77 := by subst hW0; exact ((boxAt _ _ _ (by simp)).alloc _).alloc _
  have x2 : Box W0 (w.heap.size + 1 + 1) 77 := by subst hW0; exact (boxAt _ _ _ (by simp)).alloc _
  have x3 : Box W0 (w.heap.size + 1 + 1 + 1) 77 := by subst hW0; exact boxAt _ _ _ (by simp)
  have hm0 : Made (w.heap.size + 1 + 1) (w.heap.size + 1 + 1 + 1 + 1) 2 W0 := by subst hW0; exact made2 (by simp) rfl
  have hs0 : w.heap.size + 1 + 1 + 1 + 1 ≤ W0.heap.size := by subst hW0; simp
  clear hW0
  have wa := wa.belw b0
  have wb := wb.belw b0
  have r0 : Below W0.heap.size W0 W0 := brefl _
  go_wp2_with (first
    | (go_at_call 71; (with_reducible refine (r_sign_x _ b' A' n' c' l' s0 ?_ ?_ ?_).mono ?_); (exact wb); (omega); (exact HSG.out); rintro e w1 ⟨rfl, hb1⟩; have r1 := bnext r0 hb1; replace wa := wa.belw hb1; replace wb := wb.belw hb1; (try clear sc sf sr sz); obtain ⟨⟨sc, sf⟩, sr, sz⟩ := Seen.of (by omega) hs0 hm0 r1))
  (try clear sc sf sr sz)
  have hRB : w.heap.size + 1 + 1 ≤ w.heap.size + 1 + 1 + 1 + 1 := by omega
  go_region_held3 (fun w' => Sees (w.heap.size + 1 + 1) W0 w') (first | exact Sees.of (Nat.le_trans hRB hs0) (by assumption) | exact Sees.of (Nat.le_trans hRB hs0) (below_drewN (by assumption) _))
    (first
      | (go_at_call 101; (with_reducible refine (r_mag_c _ b A n c l ?_ ?_).mono ?_); (exact wa); (omega); rintro e w2 ⟨A2, n2, c2, rfl, h2, hb2⟩; replace hb2 := bnext (below_drewN (brefl _) 1) hb2; have r2 := bnext r1 hb2; replace wa := wa.belw hb2; replace wb := wb.belw hb2)
      | (go_at_call 101; (with_reducible refine (r_mag_c _ b' A' n' c' l' ?_ ?_).mono ?_); (exact wb); (omega); rintro e w3 ⟨A3, n3, c3, rfl, h3, hb3⟩; have r3 := bnext r2 hb3; replace wa := wa.belw hb3; replace wb := wb.belw hb3; replace h2 := h2.belw hb3)
      | (go_at_call 134; (with_reducible refine (r_divide_e _ A2 n2 c2 (WD.m ⟨b, l⟩) ?_ ?_ A3 n3 c3 (WD.m ⟨b', l'⟩) ?_ ?_ x y ?_ ?_ ?_).mono ?_); (exact h2); (exact h2.m_len (by rw [← HL.out]; exact hn)); (exact h3); (exact h3.m_len (by rw [← HL'.out]; exact hn')); (exact HX.out.1); (exact HX.out.2); (exact HY.out); rintro e w4 ⟨A4, n4, c4, A5, n5, c5, rfl, h4, h5, hb4⟩; have r4 := bnext r3 hb4; replace wa := wa.belw hb4; replace wb := wb.belw hb4; replace h2 := h2.belw hb4; replace h3 := h3.belw hb4))
  obtain ⟨⟨sc, sf⟩, sr, sz⟩ := Seen.of (by omega) hs0 hm0 r4
  clear hRB
  have hn4 : n4 ≤ 1000000000000 := by
    rw [h4.2.1]; exact dlen (Nat.lt_of_le_of_lt (Nat.div_le_self _ _) (HX.out.1 ▸ h2.vlt (Nat.le_refl _))) (h2.m_len (by rw [← HL.out]; exact hn))
  have hn5 : n5 = 0 := by rw [h5.2.1, HR0.out, digs_zero]; rfl
  subst hn5
  cases sa
  · go_wp2_with (first
      | (go_at_call 102; (with_reducible refine (r_neg_e _ b A n c l false ?_ ?_ ?_).mono ?_); (exact wa); (omega); (exact HS.out.1); rintro e w5 ⟨rfl, hb5⟩; have r5 := bnext r4 hb5; replace wa := wa.belw hb5; replace wb := wb.belw hb5; replace h2 := h2.belw hb5; replace h3 := h3.belw hb5; replace h4 := h4.belw hb5; replace h5 := h5.belw hb5; (try clear sc sf sr sz); obtain ⟨⟨sc, sf⟩, sr, sz⟩ := Seen.of (by omega) hs0 hm0 r5))
    have HZ := Lib.hid (div_plain (sa := false) (sb := sb) (x := x) HY.out (.inr HR0.out))
    (try clear sc sf sr sz)
    have hRB : w.heap.size + 1 + 1 ≤ w.heap.size + 1 + 1 + 1 + 1 := by omega
    go_region_held3 (fun w' => Sees (w.heap.size + 1 + 1) W0 w') (first | exact Sees.of (Nat.le_trans hRB hs0) (by assumption) | exact Sees.of (Nat.le_trans hRB hs0) (below_drewN (by assumption) _) | exact (Sees.set (Sees.of (Nat.le_trans hRB hs0) (by assumption)) (by simp)) | exact (Sees.set (Sees.set (Sees.of (Nat.le_trans hRB hs0) (by assumption)) (by simp)) (by simp)) | exact (Sees.set (Sees.set (Sees.set (Sees.of (Nat.le_trans hRB hs0) (by assumption)) (by simp)) (by simp)) (by simp)) | exact (Sees.set (Sees.set (Sees.set (Sees.set (Sees.of (Nat.le_trans hRB hs0) (by assumption)) (by simp)) (by simp)) (by simp)) (by simp)))
      (first
        | (go_at_call 102; (with_reducible refine (r_neg_e _ b A n c l false ?_ ?_ ?_).mono ?_); (exact wa); (omega); (exact HS.out.1); rintro e w6 ⟨rfl, hb6⟩; replace hb6 := bnext (below_drewN (brefl _) 1) hb6; have r6 := bnext r5 hb6; replace wa := wa.belw hb6; replace wb := wb.belw hb6; replace h2 := h2.belw hb6; replace h3 := h3.belw hb6; replace h4 := h4.belw hb6; replace h5 := h5.belw hb6)
        | (go_at_call 102; (with_reducible refine (r_neg_e _ b' A' n' c' l' sb ?_ ?_ ?_).mono ?_); (exact wb); (omega); (exact HS.out.2); rintro e w7 ⟨rfl, hb7⟩; have r7 := bnext r6 hb7; replace wa := wa.belw hb7; replace wb := wb.belw hb7; replace h2 := h2.belw hb7; replace h3 := h3.belw hb7; replace h4 := h4.belw hb7; replace h5 := h5.belw hb7)
        | (go_at_call 100; (with_reducible refine (r_form_e _ sb A4 n4 c4 (digs (x / y)) (sgn false x / sgn sb y) ?_ ?_ ?_).mono ?_); (exact h4); (omega); (rw [HZ.out.1, val_digs]; cases sb <;> rfl); rintro e w8 ⟨A8, n8, c8, rfl, h8, hb8⟩; have r8 := bnext r7 hb8; replace wa := wa.belw hb8; replace wb := wb.belw hb8; replace h2 := h2.belw hb8; replace h3 := h3.belw hb8; replace h4 := h4.belw hb8; replace h5 := h5.belw hb8)
        | (go_at_call 100; (with_reducible refine (r_form_e _ false A5 0 c5 (digs (x % y)) (sgn false x % sgn sb y) ?_ ?_ ?_).mono ?_); (exact h5); (omega); (rw [HZ.out.2, val_digs]; rfl); rintro e w9 ⟨A9, n9, c9, rfl, h9, hb9⟩; have r9 := bnext r8 hb9; replace wa := wa.belw hb9; replace wb := wb.belw hb9; replace h2 := h2.belw hb9; replace h3 := h3.belw hb9; replace h4 := h4.belw hb9; replace h5 := h5.belw hb9; replace h8 := h8.belw hb9; obtain ⟨⟨sc, sf⟩, sr, sz⟩ := Seen.of (by omega) hs0 hm0 r9))
    clear hRB
    go_wp2_with fail
    refine bodyPost_ret (v := .tuple #[.agg #[.bool _, .slice A8 n8 c8], .agg #[.bool _, .slice A9 n9 c9], .int .i64 0]) (by simp [results, Tryz.results99, go_sem, sr]; first | rfl | exact ⟨rfl, rfl⟩) rfl ?_
    have y2 := x2.below r9
    have y3 := x3.below r9
    refine ⟨A8, n8, c8, A9, n9, c9, rfl, ?_, ?_, ?_⟩
    · exact h8.keep (kp4 y2 y3 (by decide) (by decide) _ _ _ _ _ _ _ _)
    · exact h9.keep (kp4 y2 y3 (by decide) (by decide) _ _ _ _ _ _ _ _)
    · exact ((((b0.trans (r9.mono b0.size)).setCell (by dsimp only; omega) _).setCell (by dsimp only; omega) _).setCell (by dsimp only; omega) _).setCell (by dsimp only; omega) _
  · go_wp2_with (first
      | (go_at_call 102; (with_reducible refine (r_neg_e _ b A n c l true ?_ ?_ ?_).mono ?_); (exact wa); (omega); (exact HS.out.1); rintro e w5 ⟨rfl, hb5⟩; have r5 := bnext r4 hb5; replace wa := wa.belw hb5; replace wb := wb.belw hb5; replace h2 := h2.belw hb5; replace h3 := h3.belw hb5; replace h4 := h4.belw hb5; replace h5 := h5.belw hb5; (try clear sc sf sr sz); obtain ⟨⟨sc, sf⟩, sr, sz⟩ := Seen.of (by omega) hs0 hm0 r5))
    have HZ := Lib.hid (div_plain (sa := true) (sb := sb) (x := x) HY.out (.inr HR0.out))
    (try clear sc sf sr sz)
    have hRB : w.heap.size + 1 + 1 ≤ w.heap.size + 1 + 1 + 1 + 1 := by omega
    go_region_held3 (fun w' => Sees (w.heap.size + 1 + 1) W0 w') (first | exact Sees.of (Nat.le_trans hRB hs0) (by assumption) | exact Sees.of (Nat.le_trans hRB hs0) (below_drewN (by assumption) _) | exact (Sees.set (Sees.of (Nat.le_trans hRB hs0) (by assumption)) (by simp)) | exact (Sees.set (Sees.set (Sees.of (Nat.le_trans hRB hs0) (by assumption)) (by simp)) (by simp)) | exact (Sees.set (Sees.set (Sees.set (Sees.of (Nat.le_trans hRB hs0) (by assumption)) (by simp)) (by simp)) (by simp)) | exact (Sees.set (Sees.set (Sees.set (Sees.set (Sees.of (Nat.le_trans hRB hs0) (by assumption)) (by simp)) (by simp)) (by simp)) (by simp)))
      (first
        | (go_at_call 102; (with_reducible refine (r_neg_e _ b A n c l true ?_ ?_ ?_).mono ?_); (exact wa); (omega); (exact HS.out.1); rintro e w6 ⟨rfl, hb6⟩; replace hb6 := bnext (below_drewN (brefl _) 1) hb6; have r6 := bnext r5 hb6; replace wa := wa.belw hb6; replace wb := wb.belw hb6; replace h2 := h2.belw hb6; replace h3 := h3.belw hb6; replace h4 := h4.belw hb6; replace h5 := h5.belw hb6)
        | (go_at_call 102; (with_reducible refine (r_neg_e _ b' A' n' c' l' sb ?_ ?_ ?_).mono ?_); (exact wb); (omega); (exact HS.out.2); rintro e w7 ⟨rfl, hb7⟩; have r7 := bnext r6 hb7; replace wa := wa.belw hb7; replace wb := wb.belw hb7; replace h2 := h2.belw hb7; replace h3 := h3.belw hb7; replace h4 := h4.belw hb7; replace h5 := h5.belw hb7)
        | (go_at_call 100; (with_reducible refine (r_form_e _ (!sb) A4 n4 c4 (digs (x / y)) (sgn true x / sgn sb y) ?_ ?_ ?_).mono ?_); (exact h4); (omega); (rw [HZ.out.1, val_digs]; cases sb <;> rfl); rintro e w8 ⟨A8, n8, c8, rfl, h8, hb8⟩; have r8 := bnext r7 hb8; replace wa := wa.belw hb8; replace wb := wb.belw hb8; replace h2 := h2.belw hb8; replace h3 := h3.belw hb8; replace h4 := h4.belw hb8; replace h5 := h5.belw hb8)
        | (go_at_call 100; (with_reducible refine (r_form_e _ false A5 0 c5 (digs (x % y)) (sgn true x % sgn sb y) ?_ ?_ ?_).mono ?_); (exact h5); (omega); (rw [HZ.out.2, val_digs]; rfl); rintro e w9 ⟨A9, n9, c9, rfl, h9, hb9⟩; have r9 := bnext r8 hb9; replace wa := wa.belw hb9; replace wb := wb.belw hb9; replace h2 := h2.belw hb9; replace h3 := h3.belw hb9; replace h4 := h4.belw hb9; replace h5 := h5.belw hb9; replace h8 := h8.belw hb9; obtain ⟨⟨sc, sf⟩, sr, sz⟩ := Seen.of (by omega) hs0 hm0 r9))
    clear hRB
    go_wp2_with fail
    refine bodyPost_ret (v := .tuple #[.agg #[.bool _, .slice A8 n8 c8], .agg #[.bool _, .slice A9 n9 c9], .int .i64 0]) (by simp [results, Tryz.results99, go_sem, sr]; first | rfl | exact ⟨rfl, rfl⟩) rfl ?_
    have y2 := x2.below r9
    have y3 := x3.below r9
    refine ⟨A8, n8, c8, A9, n9, c9, rfl, ?_, ?_, ?_⟩
    · exact h8.keep (kp4 y2 y3 (by decide) (by decide) _ _ _ _ _ _ _ _)
    · exact h9.keep (kp4 y2 y3 (by decide) (by decide) _ _ _ _ _ _ _ _)
    · exact ((((b0.trans (r9.mono b0.size)).setCell (by dsimp only; omega) _).setCell (by dsimp only; omega) _).setCell (by dsimp only; omega) _).setCell (by dsimp only; omega) _
theorem r01_div (w : World) (b A n c z k) (h : IZ w b A n c z k) (b' A' n' c' z' k') (h' : IZ w b' A' n' c' z' k') (hk : k + k' ≤ 1000000000) (h0 : z' ≠ 0) (hr : z % z' = 0) : Calls Tryz.prog 99 #[.agg #[.bool b, .slice A n c], .agg #[.bool b', .slice A' n' c']] w (RetDv w (.int .i64 0) (z / z') (z % z') (k + k')) := by
  have hz := h.mono (Nat.le_add_right k k') |>.lt
  have hz' := h'.mono (Nat.le_add_left k' k) |>.lt
  obtain ⟨l, h1, rfl, h3⟩ := h
  obtain ⟨l', h1', rfl, h3'⟩ := h'
  refine (r_div_C w b A n c l h1 (by omega) b' A' n' c' l' h1' (by omega) h0 hr).mono fun _ _ r => ?_
  obtain ⟨A1, n1, c1, A2, n2, c2, rfl, r1, r2, r3⟩ := r
  refine ⟨_, A1, n1, c1, _, A2, n2, c2, rfl, IV.mk_ r1 rfl ?_, IV.mk_ r2 rfl ?_, r3⟩
  · exact Nat.lt_of_le_of_lt (Int.natAbs_ediv_le_natAbs _ _) hz
  · have e1 := Int.emod_nonneg (WD.z ⟨b, l⟩) h0
    have e2 := Int.emod_lt (WD.z ⟨b, l⟩) h0
    omega
end Go.Proofs.YtianjkiakkclgaaGreatDoor

/- Walks: the reference: fractions in lowest terms. -/
namespace Go.Proofs.YtianjkiakkclgaaGreatDoor
open Go Go.RowKit Bn
attribute [local go_sem ↓] Go.wp_at_zero Go.wp_at_succ
theorem r01_sign_e (w : World) (b A n c z k) (h : IZ w b A n c z k) (s : Int) (hs : z.sign = s) (hk : k ≤ 1000000000) : Calls Tryz.prog 71 #[.agg #[.bool b, .slice A n c]] w (RetV w (.int .i64 s)) := by
  subst hs; exact r01_sign w b A n c z k h hk
theorem form_any {z d : Int} {q : Rat} (hz : z ≠ 0) (hd : 0 < d) (hq : Rat.divInt z d = q) :
    (rd q).num = (wh (z / ((Nat.gcd z.natAbs d.natAbs : Nat) : Int))).mag ∧ (rd q).den = (wh (d / ((Nat.gcd z.natAbs d.natAbs : Nat) : Int))).mag ∧ (rd q).neg = (wh (z / ((Nat.gcd z.natAbs d.natAbs : Nat) : Int))).neg := by
  rw [← hq, rd_divInt hz hd, wh_div _ hd]
  have hg : 0 < Nat.gcd z.natAbs d.natAbs := Nat.gcd_pos_of_pos_right _ (by omega)
  have hdv : ((Nat.gcd z.natAbs d.natAbs : Nat) : Int) ∣ z := Int.ofNat_dvd_left.2 (Nat.gcd_dvd_left _ _)
  generalize Nat.gcd z.natAbs d.natAbs = g at *
  obtain ⟨m, rfl⟩ := hdv
  have e : (g : Int) * m / (g : Int) = m := Int.mul_ediv_cancel_left _ (by omega)
  have e2 : ((g : Int) * m).natAbs / g = m.natAbs := by rw [Int.natAbs_mul, Int.natAbs_natCast]; exact Nat.mul_div_cancel_left _ hg
  rw [e, e2]
  refine ⟨rfl, rfl, ?_⟩
  unfold wh
  simp only [decide_eq_decide]
  constructor
  · intro h; rcases (show m < 0 ∨ 0 ≤ m by omega) with h1 | h1; exact h1; exact absurd (Int.mul_nonneg (Int.natCast_nonneg g) h1) (by omega)
  · intro h; exact Int.mul_neg_of_pos_of_neg (by omega) h
theorem g_form_0 (w : World) (b A n c z k) (h : IZ w b A n c z k) (b' A' n' c' z' k') (h' : IZ w b' A' n' c' z' k') (K : Nat) (hz : z = 0) (hk : k + k' ≤ 300000000) :
  Calls Tryz.prog 64 #[.agg #[.bool b, .slice A n c], .agg #[.bool b', .slice A' n' c']] w (RetF w 0 K) := by
 have HZ := Lib.hid (show z.sign = 0 by rw [hz]; rfl)
 clear hz
 go_enter Tryz.func64, Tryz.ntmps64
 go_wp2_with fail
 (with_reducible refine (r01_sign_e _ b A n c (z) (k) ?_ (0) ?_ ?_).mono ?_); (exact (h.belw ((((Below.refl _ _).alloc (Nat.le_refl _) _).alloc (by simp) _).alloc (by simp <;> omega) _))); (exact HZ.out); (omega); rintro e w1 ⟨rfl, hb1⟩
 have q1 := hb1.q3
 replace h := h.belw q1
 replace h' := h'.belw q1
 have x1a : Blk w1 w.heap.size 77 #[.bool b, .slice A n c] := (((blkAt _ _ _ (by simp)).alloc _).alloc _).below hb1 (by simp <;> omega)
 have x1b := ((blkAt _ _ _ (g := w.heap.size + 1) (by simp)).alloc _).below hb1 (by simp <;> omega)
 have x1c := (blkAt _ _ _ (g := w.heap.size + 1 + 1) (by simp)).below hb1 (by simp)
 have bw1 := (brefl w).trans (q1.mono (brefl w).size)
 have lw1 := hb1.l3
 clear q1
 have cx1c := x1c.c3
 have fx1c := x1c.f3
 have lx1c := lts2 x1c.lt
 go_wp2_with fail
 refine bodyPost_ret (v := .agg #[.bool false, .slice none 0 0, .slice none 0 0]) (by simp [results, Tryz.results64, go_sem, *] <;> trivial) rfl ?_
 exact ⟨false, none, 0, 0, none, 0, 0, rfl, QV.zero _ _, (((bw1.sc (w.heap.size + 1 + 1) 0 (by omega) (.bool false)).sc (w.heap.size + 1 + 1) 1 (by omega) (.slice none 0 0)).sc (w.heap.size + 1 + 1) 2 (by omega) (.slice none 0 0))⟩
theorem g_form_p (w : World)  (b A n c z k) (h : IZ w b A n c z k) (b' A' n' c' z' k') (h' : IZ w b' A' n' c' z' k') (q : Rat) (K : Nat) (hz : z ≠ 0) (hd : z'.sign = 1) (hq : Rat.divInt z z' = q) (hs : Sz q K) (hk : k + k' ≤ 300000000) :
  Calls Tryz.prog 64 #[.agg #[.bool b, .slice A n c], .agg #[.bool b', .slice A' n' c']] w (RetF w q K) := by
 obtain ⟨s, hs1⟩ : ∃ s, z.sign = s := ⟨_, rfl⟩
 have e0 : ((s : Int) == 0) = false := by simp; rintro rfl; exact hz (Int.sign_eq_zero_iff_zero.1 hs1)
 have HZ := Lib.hid hs1
 have HD := Lib.hid hd
 have HN := Lib.hid (show z ≠ 0 by omega)
 have HP := Lib.hid (show 0 < z' by exact sign_pos hd)
 have HG := Lib.hid (show ((Nat.gcd (z).natAbs (z').natAbs : Nat) : Int) ≠ 0 from gcd_ne HP.out)
 have HM1 := Lib.hid (show z % ((Nat.gcd (z).natAbs (z').natAbs : Nat) : Int) = 0 from Int.emod_eq_zero_of_dvd (Int.ofNat_dvd_left.2 (Nat.gcd_dvd_left _ _)))
 have HM2 := Lib.hid (show z' % ((Nat.gcd (z).natAbs (z').natAbs : Nat) : Int) = 0 from Int.emod_eq_zero_of_dvd (Int.ofNat_dvd_left.2 (Nat.gcd_dvd_right _ _)))
 have HQ := Lib.hid (show Rat.divInt z z' = q by exact hq)
 have HS := Lib.hid hs
 clear hz hd hq hs hs1
 go_enter Tryz.func64, Tryz.ntmps64
 go_wp2_with fail
 (with_reducible refine (r01_sign_e _ b A n c (z) (k) ?_ (s) ?_ ?_).mono ?_); (exact (h.belw ((((Below.refl _ _).alloc (Nat.le_refl _) _).alloc (by simp) _).alloc (by simp <;> omega) _))); (exact HZ.out); (omega); rintro e w1 ⟨rfl, hb1⟩
 have q1 := hb1.q3
 replace h := h.belw q1
 replace h' := h'.belw q1
 have x1a : Blk w1 w.heap.size 77 #[.bool b, .slice A n c] := (((blkAt _ _ _ (by simp)).alloc _).alloc _).below hb1 (by simp <;> omega)
 have x1b := ((blkAt _ _ _ (g := w.heap.size + 1) (by simp)).alloc _).below hb1 (by simp <;> omega)
 have x1c := (blkAt _ _ _ (g := w.heap.size + 1 + 1) (by simp)).below hb1 (by simp)
 have bw1 := (brefl w).trans (q1.mono (brefl w).size)
 have lw1 := hb1.l3
 clear q1
 obtain ⟨cx1ba, cx1bb⟩ := x1b.c2
 obtain ⟨lx1ba, lx1bb, lx1bc, lx1bd⟩ := lts1 x1b.lt
 go_wp2_with fail
 (with_reducible refine (r01_sign_e _ b' A' n' c' (z') (k') ?_ (1) ?_ ?_).mono ?_); (exact h'); (exact HD.out); (omega); rintro e w2 ⟨rfl, q2⟩
 clear cx1ba cx1bb lx1ba lx1bb lx1bc lx1bd
 replace h := h.belw q2
 replace h' := h'.belw q2
 replace x1a := x1a.b q2
 replace x1b := x1b.b q2
 replace x1c := x1c.b q2
 have bw2 := bw1.trans (q2.mono bw1.size)
 have lw2 := q2.size
 clear q2 bw1
 obtain ⟨cx1aa, cx1ab⟩ := x1a.c2
 obtain ⟨lx1aa, lx1ab, lx1ac, lx1ad⟩ := lts0 x1a.lt
 obtain ⟨cx1ba, cx1bb⟩ := x1b.c2
 obtain ⟨lx1ba, lx1bb, lx1bc, lx1bd⟩ := lts1 x1b.lt
 go_wp2_with fail
 (with_reducible refine (r01_gcd _ b A n c (z) (k) ?_ b' A' n' c' (z') (k') ?_ ?_).mono ?_); (exact h); (exact h'); (omega); rintro e w3 ⟨b3, A3, n3, c3, rfl, h3, q3⟩
 clear cx1aa cx1ab lx1aa lx1ab lx1ac lx1ad cx1ba cx1bb lx1ba lx1bb lx1bc lx1bd
 replace h := h.belw q3
 replace h' := h'.belw q3
 replace x1a := x1a.b q3
 replace x1b := x1b.b q3
 replace x1c := x1c.b q3
 have bw3 := bw2.trans (q3.mono bw2.size)
 have lw3 := q3.size
 clear q3 bw2
 obtain ⟨cx1aa, cx1ab⟩ := x1a.c2
 obtain ⟨lx1aa, lx1ab, lx1ac, lx1ad⟩ := lts0 x1a.lt
 go_wp2_with fail
 (with_reducible refine (r01_div _ b A n c (z) (k) ?_ b3 A3 n3 c3 ((Nat.gcd ((z)).natAbs ((z')).natAbs : Nat)) ((k) + (k')) ?_  ?_ ?_ ?_).mono ?_); (exact (h.belw ((Below.refl _ _).alloc (Nat.le_refl _) _))); (exact (h3.belw ((Below.refl _ _).alloc (Nat.le_refl _) _)).iz); (omega); (exact HG.out); (exact HM1.out); rintro e w4 ⟨b4, A4, n4, c4, b'4, A'4, n'4, c'4, rfl, h4, h'4, hb4⟩
 clear cx1aa cx1ab lx1aa lx1ab lx1ac lx1ad
 have q4 := hb4.q1
 replace h := h.belw q4
 replace h' := h'.belw q4
 replace h3 := h3.belw q4
 replace x1a := x1a.b q4
 replace x1b := x1b.b q4
 replace x1c := x1c.b q4
 have x4a : Blk w4 w3.heap.size 77 #[.bool b3, .slice A3 n3 c3] := (blkAt _ _ _ (by simp)).below hb4 (by simp)
 have bw4 := bw3.trans (q4.mono bw3.size)
 have lw4 := hb4.l1
 clear q4 bw3
 obtain ⟨cx1ba, cx1bb⟩ := x1b.c2
 obtain ⟨lx1ba, lx1bb, lx1bc, lx1bd⟩ := lts1 x1b.lt
 have cx4a := x4a.c2
 have lx4a := lts0 x4a.lt
 go_wp2_with fail
 (with_reducible refine (r01_div _ b' A' n' c' (z') (k') ?_ b3 A3 n3 c3 ((Nat.gcd ((z)).natAbs ((z')).natAbs : Nat)) ((k) + (k')) ?_  ?_ ?_ ?_).mono ?_); (exact (h'.belw (((Below.refl _ _).alloc (Nat.le_refl _) _).alloc (by simp) _))); (exact (h3.belw (((Below.refl _ _).alloc (Nat.le_refl _) _).alloc (by simp) _)).iz); (omega); (exact HG.out); (exact HM2.out); rintro e w5 ⟨b5, A5, n5, c5, b'5, A'5, n'5, c'5, rfl, h5, h'5, hb5⟩
 clear cx1ba cx1bb lx1ba lx1bb lx1bc lx1bd cx4a lx4a
 have q5 := hb5.q2
 replace h := h.belw q5
 replace h' := h'.belw q5
 replace h3 := h3.belw q5
 replace h4 := h4.belw q5
 replace h'4 := h'4.belw q5
 replace x1a := x1a.b q5
 replace x1b := x1b.b q5
 replace x1c := x1c.b q5
 replace x4a := x4a.b q5
 have x5a : Blk w5 w4.heap.size 77 #[.bool b4, .slice A4 n4 c4] := ((blkAt _ _ _ (by simp)).alloc _).below hb5 (by simp <;> omega)
 have x5b := (blkAt _ _ _ (g := w4.heap.size + 1) (by simp)).below hb5 (by simp)
 have bw5 := bw4.trans (q5.mono bw4.size)
 have lw5 := hb5.l2
 clear q5 bw4
 have cx1c := x1c.c3
 have fx1c := x1c.f3
 have lx1c := lts2 x1c.lt
 have cx5a := x5a.c2
 have lx5a := lts0 x5a.lt
 go_wp2_with fail
 refine bodyPost_ret (v := .agg #[.bool b4, .slice A4 n4 c4, .slice A5 n5 c5]) (by simp [results, Tryz.results64, go_sem, *] <;> trivial) rfl ?_
 obtain ⟨e1, e2, e3⟩ := form_any HN.out HP.out HQ.out
 exact ⟨_, _, _, _, _, _, _, rfl, QV.mk_ (by rw [e1]; exact h4.2.1.keep ((((((Kp.refl w5).sb (w.heap.size + 1 + 1) 0 x1c.box (by decide) (.bool b4)).sb (w.heap.size + 1 + 1) 1 (x1c.box.set ⟨w.heap.size + 1 + 1, 0, none⟩ (.bool b4)) (by decide) (.slice A4 n4 c4)).sb (w.heap.size + 1 + 1) 2 ((x1c.box.set ⟨w.heap.size + 1 + 1, 0, none⟩ (.bool b4)).set ⟨w.heap.size + 1 + 1, 1, none⟩ (.slice A4 n4 c4)) (by decide) (.slice A5 n5 c5)).alloc (.cells #[.bool b5, .slice A5 n5 c5] 77)).alloc (.cells #[.bool b'5, .slice A'5 n'5 c'5] 77))) (by rw [e2]; exact h5.2.1.keep ((((((Kp.refl w5).sb (w.heap.size + 1 + 1) 0 x1c.box (by decide) (.bool b4)).sb (w.heap.size + 1 + 1) 1 (x1c.box.set ⟨w.heap.size + 1 + 1, 0, none⟩ (.bool b4)) (by decide) (.slice A4 n4 c4)).sb (w.heap.size + 1 + 1) 2 ((x1c.box.set ⟨w.heap.size + 1 + 1, 0, none⟩ (.bool b4)).set ⟨w.heap.size + 1 + 1, 1, none⟩ (.slice A4 n4 c4)) (by decide) (.slice A5 n5 c5)).alloc (.cells #[.bool b5, .slice A5 n5 c5] 77)).alloc (.cells #[.bool b'5, .slice A'5 n'5 c'5] 77))) (by rw [e3]; exact h4.1.symm) HS.out, (((((bw5.sc (w.heap.size + 1 + 1) 0 (by omega) (.bool b4)).sc (w.heap.size + 1 + 1) 1 (by omega) (.slice A4 n4 c4)).sc (w.heap.size + 1 + 1) 2 (by omega) (.slice A5 n5 c5)).alloc (by first | omega | (simp <;> omega)) (.cells #[.bool b5, .slice A5 n5 c5] 77)).alloc (by first | omega | (simp <;> omega)) (.cells #[.bool b'5, .slice A'5 n'5 c'5] 77))⟩
theorem g_form_n (w : World)  (b A n c z k) (h : IZ w b A n c z k) (b' A' n' c' z' k') (h' : IZ w b' A' n' c' z' k') (q : Rat) (K : Nat) (hz : z ≠ 0) (hd : z'.sign = -1) (hq : Rat.divInt z z' = q) (hs : Sz q K) (hk : k + k' ≤ 300000000) :
  Calls Tryz.prog 64 #[.agg #[.bool b, .slice A n c], .agg #[.bool b', .slice A' n' c']] w (RetF w q K) := by
 obtain ⟨s, hs1⟩ : ∃ s, z.sign = s := ⟨_, rfl⟩
 have e0 : ((s : Int) == 0) = false := by simp; rintro rfl; exact hz (Int.sign_eq_zero_iff_zero.1 hs1)
 have HZ := Lib.hid hs1
 have HD := Lib.hid hd
 have HN := Lib.hid (show (-z) ≠ 0 by omega)
 have HP := Lib.hid (show 0 < (-z') by exact sign_neg_ hd)
 have HG := Lib.hid (show ((Nat.gcd ((-z)).natAbs ((-z')).natAbs : Nat) : Int) ≠ 0 from gcd_ne HP.out)
 have HM1 := Lib.hid (show (-z) % ((Nat.gcd ((-z)).natAbs ((-z')).natAbs : Nat) : Int) = 0 from Int.emod_eq_zero_of_dvd (Int.ofNat_dvd_left.2 (Nat.gcd_dvd_left _ _)))
 have HM2 := Lib.hid (show (-z') % ((Nat.gcd ((-z)).natAbs ((-z')).natAbs : Nat) : Int) = 0 from Int.emod_eq_zero_of_dvd (Int.ofNat_dvd_left.2 (Nat.gcd_dvd_right _ _)))
 have HQ := Lib.hid (show Rat.divInt (-z) (-z') = q by rw [divInt_neg_neg _ _ (sign_ne hd)]; exact hq)
 have HS := Lib.hid hs
 clear hz hd hq hs hs1
 go_enter Tryz.func64, Tryz.ntmps64
 go_wp2_with fail
 (with_reducible refine (r01_sign_e _ b A n c (z) (k) ?_ (s) ?_ ?_).mono ?_); (exact (h.belw ((((Below.refl _ _).alloc (Nat.le_refl _) _).alloc (by simp) _).alloc (by simp <;> omega) _))); (exact HZ.out); (omega); rintro e w1 ⟨rfl, hb1⟩
 have q1 := hb1.q3
 replace h := h.belw q1
 replace h' := h'.belw q1
 have x1a : Blk w1 w.heap.size 77 #[.bool b, .slice A n c] := (((blkAt _ _ _ (by simp)).alloc _).alloc _).below hb1 (by simp <;> omega)
 have x1b := ((blkAt _ _ _ (g := w.heap.size + 1) (by simp)).alloc _).below hb1 (by simp <;> omega)
 have x1c := (blkAt _ _ _ (g := w.heap.size + 1 + 1) (by simp)).below hb1 (by simp)
 have bw1 := (brefl w).trans (q1.mono (brefl w).size)
 have lw1 := hb1.l3
 clear q1
 obtain ⟨cx1ba, cx1bb⟩ := x1b.c2
 have lx1b := lts1 x1b.lt
 go_wp2_with fail
 (with_reducible refine (r01_sign_e _ b' A' n' c' (z') (k') ?_ (-1) ?_ ?_).mono ?_); (exact h'); (exact HD.out); (omega); rintro e w2 ⟨rfl, q2⟩
 clear cx1ba cx1bb lx1b
 replace h := h.belw q2
 replace h' := h'.belw q2
 replace x1a := x1a.b q2
 replace x1b := x1b.b q2
 replace x1c := x1c.b q2
 have bw2 := bw1.trans (q2.mono bw1.size)
 have lw2 := q2.size
 clear q2 bw1
 go_wp2_with fail
 have cx1a := x1a.c2
 obtain ⟨cx1ba, cx1bb⟩ := x1b.c2
 go_cut [2] (fun s2 wx => s2 = .pointer (some ⟨w.heap.size, 0, none⟩) ∧ ∃ b8 A8 n8 c8 b9 A9 n9 c9, Blk wx w.heap.size 77 #[.bool b8, .slice A8 n8 c8] ∧ Blk wx (w.heap.size + 1) 77 #[.bool b9, .slice A9 n9 c9] ∧ Blk wx (w.heap.size + 1 + 1) 24 #[.bool false, .slice none 0 0, .slice none 0 0] ∧ IV wx b8 A8 n8 c8 (-z) k ∧ IV wx b9 A9 n9 c9 (-z') k' ∧ Below w.heap.size w wx ∧ w2.heap.size ≤ wx.heap.size)
 case first =>
  go_region_with (first
   | (go_at_call 97; (with_reducible refine (r01_neg _ b A n c (z) (k) ?_ ?_).mono ?_); (exact h); (omega); rintro e w3 ⟨b4, A4, n4, c4, rfl, h4, hb4⟩; replace hb4 := bnext (below_drewN (brefl _) 1) hb4; replace h' := h'.belw hb4; have bw4 := bw2.trans (hb4.mono bw2.size); have lw4 := hb4.size; replace x1a := x1a.b hb4; replace x1b := x1b.b hb4; replace x1c := x1c.b hb4; obtain ⟨dx1_1_0, dx1_1_1⟩ := x1b.c2)
   | (go_at_call 97; (with_reducible refine (r01_neg _ b' A' n' c' (z') (k') ?_ ?_).mono ?_); (exact h'); (omega); rintro e w4 ⟨b5, A5, n5, c5, rfl, h5, hb5⟩; replace h4 := h4.belw hb5; have bw5 := bw4.trans (hb5.mono bw4.size); have lw5 := hb5.size; replace x1a := x1a.b hb5; replace x1b := x1b.b hb5; replace x1c := x1c.b hb5; obtain ⟨ex1_0_0, ex1_0_1⟩ := x1a.c2; obtain ⟨fx1aa, fx1ab⟩ := x1a.f2; obtain ⟨ex1_1_0, ex1_1_1⟩ := x1b.c2; obtain ⟨fx1ba, fx1bb⟩ := x1b.f2))
  all_goals
   go_wp2_with fail
   go_meet
   have kp := (((((Kp.refl w4).sb w.heap.size 0 x1a.box (by decide) (.bool b4)).sb w.heap.size 1 (x1a.box.set ⟨w.heap.size, 0, none⟩ (.bool b4)) (by decide) (.slice A4 n4 c4)).sb (w.heap.size + 1) 0 ((x1b.box.set ⟨w.heap.size, 0, none⟩ (.bool b4)).set ⟨w.heap.size, 1, none⟩ (.slice A4 n4 c4)) (by decide) (.bool b5)).sb (w.heap.size + 1) 1 (((x1b.box.set ⟨w.heap.size, 0, none⟩ (.bool b4)).set ⟨w.heap.size, 1, none⟩ (.slice A4 n4 c4)).set ⟨w.heap.size + 1, 0, none⟩ (.bool b5)) (by decide) (.slice A5 n5 c5))
   exact ⟨rfl, b4, A4, n4, c4, b5, A5, n5, c5, ((((x1a.set_at 0 (.bool b4) #[.bool b4, .slice A n c] (by simp)).set_at 1 (.slice A4 n4 c4) #[.bool b4, .slice A4 n4 c4] (by simp)).fr (w.heap.size + 1) 0 (by omega) (.bool b5)).fr (w.heap.size + 1) 1 (by omega) (.slice A5 n5 c5)), ((((x1b.fr w.heap.size 0 (by omega) (.bool b4)).fr w.heap.size 1 (by omega) (.slice A4 n4 c4)).set_at 0 (.bool b5) #[.bool b5, .slice A' n' c'] (by simp)).set_at 1 (.slice A5 n5 c5) #[.bool b5, .slice A5 n5 c5] (by simp)), ((((x1c.fr w.heap.size 0 (by omega) (.bool b4)).fr w.heap.size 1 (by omega) (.slice A4 n4 c4)).fr (w.heap.size + 1) 0 (by omega) (.bool b5)).fr (w.heap.size + 1) 1 (by omega) (.slice A5 n5 c5)), h4.keep kp, h5.keep kp, ((((bw5.sc w.heap.size 0 (by omega) (.bool b4)).sc w.heap.size 1 (by omega) (.slice A4 n4 c4)).sc (w.heap.size + 1) 0 (by omega) (.bool b5)).sc (w.heap.size + 1) 1 (by omega) (.slice A5 n5 c5)), by simp [World.setCell]; omega⟩
 case rest =>
  clear h h'
  obtain ⟨rfl, b8, A8, n8, c8, b9, A9, n9, c9, y0, y1, y2, h8, h9, bwc, lwc⟩ := hcut
  clear x1a x1b x1c
  have cy0_0 : wc.cell? ⟨w.heap.size, 0, none⟩ = some (.bool b8) := y0.cell 0
  have cy0_1 : wc.cell? ⟨w.heap.size, 1, none⟩ = some (.slice A8 n8 c8) := y0.cell 1
  obtain ⟨ly0_0, ly0_1, ly0_2, ly0_3⟩ := lts0 y0.lt
  have cy1_0 : wc.cell? ⟨w.heap.size + 1, 0, none⟩ = some (.bool b9) := y1.cell 0
  have cy1_1 : wc.cell? ⟨w.heap.size + 1, 1, none⟩ = some (.slice A9 n9 c9) := y1.cell 1
  obtain ⟨ly1_0, ly1_1, ly1_2, ly1_3⟩ := lts1 y1.lt
  go_wp2_with fail
  (with_reducible refine (r01_gcd _ b8 A8 n8 c8 (-z) (k) ?_ b9 A9 n9 c9 (-z') (k') ?_ ?_).mono ?_); (exact h8.iz); (exact h9.iz); (omega); rintro e w13 ⟨b13, A13, n13, c13, rfl, h13, q13⟩
  clear cy0_0 cy0_1 ly0_0 ly0_1 ly0_2 ly0_3 cy1_0 cy1_1 ly1_0 ly1_1 ly1_2 ly1_3
  replace h8 := h8.belw q13
  replace h9 := h9.belw q13
  replace y0 := y0.b q13
  replace y1 := y1.b q13
  replace y2 := y2.b q13
  have bw13 := bwc.trans (q13.mono bwc.size)
  have lw13 := q13.size
  clear q13
  obtain ⟨cy0_0, cy0_1⟩ := y0.c2
  obtain ⟨ly0_0, ly0_1, ly0_2, ly0_3⟩ := lts0 y0.lt
  go_wp2_with fail
  (with_reducible refine (r01_div _ b8 A8 n8 c8 (-z) (k) ?_ b13 A13 n13 c13 ((Nat.gcd ((-z)).natAbs ((-z')).natAbs : Nat)) ((k) + (k')) ?_  ?_ ?_ ?_).mono ?_); (exact (h8.belw ((Below.refl _ _).alloc (Nat.le_refl _) _)).iz); (exact (h13.belw ((Below.refl _ _).alloc (Nat.le_refl _) _)).iz); (omega); (exact HG.out); (exact HM1.out); rintro e w14 ⟨b14, A14, n14, c14, b'14, A'14, n'14, c'14, rfl, h14, h'14, hb14⟩
  clear cy0_0 cy0_1 ly0_0 ly0_1 ly0_2 ly0_3
  have q14 := hb14.q1
  replace h8 := h8.belw q14
  replace h9 := h9.belw q14
  replace h13 := h13.belw q14
  replace y0 := y0.b q14
  replace y1 := y1.b q14
  replace y2 := y2.b q14
  have x14a : Blk w14 w13.heap.size 77 #[.bool b13, .slice A13 n13 c13] := (blkAt _ _ _ (by simp)).below hb14 (by simp)
  have bw14 := bw13.trans (q14.mono bw13.size)
  have lw14 := hb14.l1
  clear q14 bw13
  obtain ⟨cy1_0, cy1_1⟩ := y1.c2
  obtain ⟨ly1_0, ly1_1, ly1_2, ly1_3⟩ := lts1 y1.lt
  have cx14a := x14a.c2
  have lx14a := lts0 x14a.lt
  go_wp2_with fail
  (with_reducible refine (r01_div _ b9 A9 n9 c9 (-z') (k') ?_ b13 A13 n13 c13 ((Nat.gcd ((-z)).natAbs ((-z')).natAbs : Nat)) ((k) + (k')) ?_  ?_ ?_ ?_).mono ?_); (exact (h9.belw (((Below.refl _ _).alloc (Nat.le_refl _) _).alloc (by simp) _)).iz); (exact (h13.belw (((Below.refl _ _).alloc (Nat.le_refl _) _).alloc (by simp) _)).iz); (omega); (exact HG.out); (exact HM2.out); rintro e w15 ⟨b15, A15, n15, c15, b'15, A'15, n'15, c'15, rfl, h15, h'15, hb15⟩
  clear cy1_0 cy1_1 ly1_0 ly1_1 ly1_2 ly1_3 cx14a lx14a
  have q15 := hb15.q2
  replace h8 := h8.belw q15
  replace h9 := h9.belw q15
  replace h13 := h13.belw q15
  replace h14 := h14.belw q15
  replace h'14 := h'14.belw q15
  replace y0 := y0.b q15
  replace y1 := y1.b q15
  replace y2 := y2.b q15
  replace x14a := x14a.b q15
  have x15a : Blk w15 w14.heap.size 77 #[.bool b14, .slice A14 n14 c14] := ((blkAt _ _ _ (by simp)).alloc _).below hb15 (by simp <;> omega)
  have x15b := (blkAt _ _ _ (g := w14.heap.size + 1) (by simp)).below hb15 (by simp)
  have bw15 := bw14.trans (q15.mono bw14.size)
  have lw15 := hb15.l2
  clear q15 bw14
  have cy2 := y2.c3
  have fy2 := y2.f3
  have ly2 := lts2 y2.lt
  have cx15a := x15a.c2
  have lx15a := lts0 x15a.lt
  go_wp2_with fail
  refine bodyPost_ret (v := .agg #[.bool b14, .slice A14 n14 c14, .slice A15 n15 c15]) (by simp [results, Tryz.results64, go_sem, *] <;> trivial) rfl ?_
  obtain ⟨e1, e2, e3⟩ := form_any HN.out HP.out HQ.out
  exact ⟨_, _, _, _, _, _, _, rfl, QV.mk_ (by rw [e1]; exact h14.2.1.keep ((((((Kp.refl w15).sb (w.heap.size + 1 + 1) 0 y2.box (by decide) (.bool b14)).sb (w.heap.size + 1 + 1) 1 (y2.box.set ⟨w.heap.size + 1 + 1, 0, none⟩ (.bool b14)) (by decide) (.slice A14 n14 c14)).sb (w.heap.size + 1 + 1) 2 ((y2.box.set ⟨w.heap.size + 1 + 1, 0, none⟩ (.bool b14)).set ⟨w.heap.size + 1 + 1, 1, none⟩ (.slice A14 n14 c14)) (by decide) (.slice A15 n15 c15)).alloc (.cells #[.bool b15, .slice A15 n15 c15] 77)).alloc (.cells #[.bool b'15, .slice A'15 n'15 c'15] 77))) (by rw [e2]; exact h15.2.1.keep ((((((Kp.refl w15).sb (w.heap.size + 1 + 1) 0 y2.box (by decide) (.bool b14)).sb (w.heap.size + 1 + 1) 1 (y2.box.set ⟨w.heap.size + 1 + 1, 0, none⟩ (.bool b14)) (by decide) (.slice A14 n14 c14)).sb (w.heap.size + 1 + 1) 2 ((y2.box.set ⟨w.heap.size + 1 + 1, 0, none⟩ (.bool b14)).set ⟨w.heap.size + 1 + 1, 1, none⟩ (.slice A14 n14 c14)) (by decide) (.slice A15 n15 c15)).alloc (.cells #[.bool b15, .slice A15 n15 c15] 77)).alloc (.cells #[.bool b'15, .slice A'15 n'15 c'15] 77))) (by rw [e3]; exact h14.1.symm) HS.out, (((((bw15.sc (w.heap.size + 1 + 1) 0 (by omega) (.bool b14)).sc (w.heap.size + 1 + 1) 1 (by omega) (.slice A14 n14 c14)).sc (w.heap.size + 1 + 1) 2 (by omega) (.slice A15 n15 c15)).alloc (by first | omega | (simp <;> omega)) (.cells #[.bool b15, .slice A15 n15 c15] 77)).alloc (by first | omega | (simp <;> omega)) (.cells #[.bool b'15, .slice A'15 n'15 c'15] 77))⟩
theorem g_form (w : World)  (b A n c z k) (h : IZ w b A n c z k) (b' A' n' c' z' k') (h' : IZ w b' A' n' c' z' k') (q : Rat) (K : Nat) (hd : z' ≠ 0) (hq : Rat.divInt z z' = q) (hs : Sz q K) (hk : k + k' ≤ 300000000) :
    Calls Tryz.prog 64 #[.agg #[.bool b, .slice A n c], .agg #[.bool b', .slice A' n' c']] w (RetF w q K) := by
  by_cases s : z = 0
  · rw [← hq, s, Rat.zero_divInt]; exact g_form_0 w b A n c z k h b' A' n' c' z' k' h' K s hk
  · rcases sign3 z' with t | t | t
    · exact absurd t hd
    · exact g_form_p w b A n c z k h b' A' n' c' z' k' h' q K s t hq hs hk
    · exact g_form_n w b A n c z k h b' A' n' c' z' k' h' q K s t hq hs hk
end Go.Proofs.YtianjkiakkclgaaGreatDoor

/- Walks: the reference's times, Mul. -/
namespace Go.Proofs.YtianjkiakkclgaaGreatDoor
open Go Go.RowKit Bn
attribute [local go_sem ↓] Go.wp_at_zero Go.wp_at_succ
theorem r_times_c (w : World) (A n c l) (wa : Wd w A n c l) (hn : n ≤ 1099511627776) (A' n' c' l') (wb : Wd w A' n' c' l') (hn' : n' ≤ 1099511627776) :
    Calls Tryz.prog 106 #[.slice A n c, .slice A' n' c'] w (RetL w (digs (val l * val l'))) := by
  have HL := Lib.hid wa.2.1
  have HL' := Lib.hid wb.2.1
  go_enter Tryz.func106, Tryz.ntmps106
  go_wp2_with (at_make; refine wpList_make_words _ rfl _ _ rfl _ _ _ _ (n + n') rfl rfl (by omega) (by omega) (by omega) ?_)
  go_loopw [18] (fun iv wr => ∃ (i : Nat) (L : List Nat), i ≤ n ∧ iv = .int .i64 (i : Nat) ∧ L.length = n + n' ∧ TimesO l l' L (n + n') n' i ∧ Blk wr w.heap.size 100 (cellsOf L) ∧ Below w.heap.size w wr) (fun iv _ => n - (intOf iv).toNat)
  case atStart =>
    refine ⟨0, List.replicate (n + n') 0, Nat.zero_le _, rfl, by simp, ⟨by intro x hx; rw [List.eq_of_mem_replicate hx]; omega, fun j _ => ?_, ?_⟩, Blk.new _ _ _, (Below.refl _ _).alloc (Nat.le_refl _) _⟩
    · unfold wd; by_cases hj : j < n + n' <;> simp [List.getD, hj]
    · rw [Sm]
      have : ∀ m, Sm (wd (List.replicate (n + n') 0)) m = 0 := by
        intro m
        induction m with
        | zero => rfl
        | succ m ih =>
          rw [Sm, ih]
          unfold wd; by_cases hj : m < n + n' <;> simp [List.getD, hj]
      rw [this]; simp
  case round =>
    obtain ⟨i, L, hi, rfl, hLM, hI, hB, hbel⟩ := hrel
    have hKp := Lib.hid ((Kp.refl w).below hbel)
    have HI := Lib.hid hI
    have HB := Lib.hid hB
    have HLM := Lib.hid hLM
    clear hI hB hLM
    by_cases hkM : i < n
    · obtain ⟨x, hx⟩ : ∃ x, wd l i = x := ⟨_, rfl⟩
      have hx1 : x < 4294967296 := by rw [← hx]; exact wa.lt i
      have HX := Lib.hid hx
      clear hx
      go_wp2_with fail
      obtain ⟨wo, hwo⟩ : ∃ wo : World, wo = wr := ⟨_, rfl⟩
      have HWO := Lib.hid hwo
      clear hwo
      go_loopw [7, 23] (fun cv kv w2 => ∃ (k cr : Nat) (L2 : List Nat), k ≤ n' ∧ kv = .int .i64 (k : Nat) ∧ cv = .int .u64 (cr : Nat) ∧ cr < 4294967296 ∧ L2.length = n + n' ∧ TimesN l l' L2 (n + n') n' i x k cr ∧ Blk w2 w.heap.size 100 (cellsOf L2) ∧ Below w.heap.size w w2) (fun _ kv _ => n' - (intOf kv).toNat)
      case atStart => exact ⟨0, 0, L, Nat.zero_le _, rfl, rfl, by omega, HLM.out, ⟨HI.out.1, HI.out.2.1, by rw [HI.out.2.2]; simp [Sm]⟩, HB.out, hbel⟩
      case round =>
        obtain ⟨k, cr, L2, hk, rfl, rfl, hcr, hLM2, hI2, hB2, hbel2⟩ := hrel
        have hKp2 := Lib.hid ((Kp.refl w).below hbel2)
        have HI2 := Lib.hid hI2
        have HB2 := Lib.hid hB2
        have HLM2 := Lib.hid hLM2
        clear hI2 hB2 hLM2
        by_cases hkk : k < n'
        · obtain ⟨g2, o2, rfl, hgl2, hc2⟩ := (wb.keep hKp2.out).at2 (by omega)
          obtain ⟨g, o, rfl, hgl, hc1⟩ := (wa.keep hKp2.out).at2 (by omega)
          have hcx := hc1 i hkM
          rw [HX.out] at hcx
          clear hc1
          have hcy := hc2 k hkk
          obtain ⟨y, z, hy, hz⟩ : ∃ y z, wd l' k = y ∧ wd L2 (i + k) = z := ⟨_, _, rfl, rfl⟩
          have hy1 : y < 4294967296 := by rw [← hy]; exact wb.lt k
          have hz1 : z < 4294967296 := by rw [← hz]; exact wd_lt HI2.out.1 _
          rw [hy] at hcy
          have hck := HB2.out.cell (i + k)
          rw [cellsOf_get (by rw [HLM2.out]; omega), hz] at hck
          have hfk := HB2.out.frozen (i + k)
          have HY := Lib.hid hy
          have HZ := Lib.hid hz
          clear hy hz hc2
          obtain ⟨p, hp⟩ : ∃ d, IntKind.u64.wrap ((x : Int) * (y : Int)) = d := ⟨_, rfl⟩
          obtain ⟨q, hq⟩ : ∃ d, IntKind.u64.wrap (p + (z : Int)) = d := ⟨_, rfl⟩
          obtain ⟨s, hs⟩ : ∃ d, IntKind.u64.wrap (q + (cr : Int)) = d := ⟨_, rfl⟩
          have HD := Lib.hid (times_word hx1 hy1 hz1 hcr hp hq (show IntKind.u64.wrap ((cr : Int) + q) = s by rw [Int.add_comm]; exact hs))
          go_wp2
          go_quiet (fail)
          go_wp2
          obtain ⟨es, hs2⟩ := HD.out
          clear hp hq hs
          go_roundw
          case rel =>
            refine ⟨k + 1, (cr + x * y + z) / 4294967296, L2.set (i + k) ((cr + x * y + z) % 4294967296), by omega, by go_num, by rw [es]; go_num, hs2, by rw [List.length_set]; exact HLM2.out, ⟨wds_set HI2.out.1 _ (Nat.mod_lt _ (by omega)), ?_, ?_⟩, ?_, (below_drewN hbel2 _).setCell (Nat.le_refl _) _⟩
            · intro j hj; rw [wd_set, if_neg (by omega)]; exact HI2.out.2.1 j hj
            · have hm := Sm_set_mid L2 (i + k) ((cr + x * y + z) % 4294967296) (n + n') (by rw [HLM2.out]; omega) (by omega)
              rw [HZ.out] at hm
              have ht := times_step (o := z) (x := x) (y := y) (Sb := Sm (wd l') k) (Pi := 4294967296 ^ i) (Pk := 4294967296 ^ k) HI2.out.2.2 (by rw [Nat.pow_add]) hm
              rw [← Nat.add_assoc, Nat.pow_succ, Sm, HY.out]
              exact ht
            · exact (HB2.out.below (below_drewN (brefl _) _) HB2.out.lt).setW (i + k) _ _ (by rw [es]; omega)
          case measure => simp [intOf]; omega
        · have hk2 : k = n' := by omega
          have HK2 := Lib.hid hk2
          have hck := HB2.out.cell (i + n')
          have hz : wd L2 (i + n') = 0 := HI2.out.2.1 _ (by omega)
          rw [cellsOf_get (by rw [HLM2.out]; omega), hz] at hck
          have hfk := HB2.out.frozen (i + n')
          have hge : n' ≤ k := by omega
          clear hk2 hkk hz
          go_wp2
          go_roundw
          case rel =>
            refine ⟨i + 1, L2.set (i + n') cr, by omega, by go_num, by rw [List.length_set]; exact HLM2.out, ⟨wds_set HI2.out.1 _ hcr, ?_, ?_⟩, ?_, hbel2.setCell (Nat.le_refl _) _⟩
            · intro j hj; rw [wd_set, if_neg (by omega)]; exact HI2.out.2.1 j (by omega)
            · have hm := Sm_set_mid L2 (i + n') cr (n + n') (by rw [HLM2.out]; omega) (by omega)
              rw [HI2.out.2.1 _ (by omega), Nat.zero_mul, Nat.add_zero] at hm
              have h2 := HI2.out.2.2
              rw [HK2.out, Sm_ge l' (by rw [← HL'.out]; exact Nat.le_refl _)] at h2
              rw [hm, h2, Sm, HX.out, Nat.add_mul]
              congr 1
              rw [Nat.mul_assoc, Nat.mul_comm (val l'), ← Nat.mul_assoc]
            · exact HB2.out.setW (i + n') _ _ rfl
          case measure => simp [intOf]; omega
    · have hkk : i = n := by omega
      subst hkk
      have hv2 : val L = val l * val l' := by
        have h1 := HI.out.2.2
        rw [Sm_ge L (by rw [HLM.out]; exact Nat.le_refl _), Sm_ge l (by rw [← HL.out]; omega)] at h1
        exact h1
      have HV2 := Lib.hid hv2
      clear hv2
      go_wp2_with fail
      refine (r_trim_c _ _ (i + n') (i + n') L ?_ ?_).mono ?_
      · exact HB.out.wdN HI.out.1 HLM.out
      · omega
      rintro e w1 ⟨A1, n1, c1, rfl, h1, hb1⟩
      go_wp2
      go_ret
      rw [HV2.out] at h1
      exact ⟨_, _, _, rfl, h1, hbel.trans (hb1.mono hbel.size)⟩
theorem r_mul_C (w : World) (b : Bool) (A n c l) (wa : Wd w A n c l) (hn : n ≤ 500000000000) (b' : Bool) (A' n' c' l') (wb : Wd w A' n' c' l') (hn' : n' ≤ 500000000000) :
    Calls Tryz.prog 70 #[.agg #[.bool b, .slice A n c], .agg #[.bool b', .slice A' n' c']] w (RetW w (wh (WD.z ⟨b, l⟩ * WD.z ⟨b', l'⟩))) := by
  have HL := Lib.hid wa.2.1
  have HL' := Lib.hid wb.2.1
  go_enter Tryz.func70, Tryz.ntmps70
  go_wp2_with fail
  have b0 : Below w.heap.size w (((w.alloc (.cells #[.bool b, .slice A n c] 77)).alloc (.cells #[.bool b', .slice A' n' c'] 77)).alloc (.cells #[.bool false, .slice none 0 0] 77)) := ((((Below.refl _ _).alloc (Nat.le_refl _) _).alloc (by simp) _).alloc (by simp; omega) _)
  generalize hW0 : (((w.alloc (.cells #[.bool b, .slice A n c] 77)).alloc (.cells #[.bool b', .slice A' n' c'] 77)).alloc (.cells #[.bool false, .slice none 0 0] 77)) = W0 at b0 ⊢
  have c00 : W0.cell? ⟨w.heap.size, 0, none⟩ = some (.bool b) := by subst hW0; simp [go_sem]
  have f00 : W0.frozen? ⟨w.heap.size, 0, none⟩ = false := by subst hW0; simp [go_sem]
  have c01 : W0.cell? ⟨w.heap.size, 1, none⟩ = some (.slice A n c) := by subst hW0; simp [go_sem]
  have f01 : W0.frozen? ⟨w.heap.size, 1, none⟩ = false := by subst hW0; simp [go_sem]
  have c10 : W0.cell? ⟨w.heap.size + 1, 0, none⟩ = some (.bool b') := by subst hW0; simp [go_sem]
  have f10 : W0.frozen? ⟨w.heap.size + 1, 0, none⟩ = false := by subst hW0; simp [go_sem]
  have c11 : W0.cell? ⟨w.heap.size + 1, 1, none⟩ = some (.slice A' n' c') := by subst hW0; simp [go_sem]
  have f11 : W0.frozen? ⟨w.heap.size + 1, 1, none⟩ = false := by subst hW0; simp [go_sem]
  have c20 : W0.cell? ⟨w.heap.size + 1 + 1, 0, none⟩ = some (.bool false) := by subst hW0; simp [go_sem]
  have f20 : W0.frozen? ⟨w.heap.size + 1 + 1, 0, none⟩ = false := by subst hW0; simp [go_sem]
  have c21 : W0.cell? ⟨w.heap.size + 1 + 1, 1, none⟩ = some (.slice none 0 0) := by subst hW0; simp [go_sem]
  have f21 : W0.frozen? ⟨w.heap.size + 1 + 1, 1, none⟩ = false := by subst hW0; simp [go_sem]
  have x0 : Box W0 w.heap.size 77 := by subst hW0; exact ((boxAt _ _ _ (by simp)).alloc _).alloc _
  have x1 : Box W0 (w.heap.size + 1) 77 := by subst hW0; exact (boxAt _ _ _ (by simp)).alloc _
  have x2 : Box W0 (w.heap.size + 1 + 1) 77 := by subst hW0; exact boxAt _ _ _ (by simp)
  have hm0 : Made (w.heap.size + 1 + 1) (w.heap.size + 1 + 1 + 1) 2 W0 := by subst hW0; exact made1 (by simp)
  have hs0 : w.heap.size + 1 + 1 + 1 ≤ W0.heap.size := by subst hW0; simp
  clear hW0
  have wa := wa.belw b0
  have wb := wb.belw b0
  have r0 : Below W0.heap.size W0 W0 := brefl _
  have hRB : w.heap.size + 1 + 1 ≤ w.heap.size + 1 + 1 + 1 := by omega
  go_region_held3 (fun w' => Sees (w.heap.size + 1 + 1) W0 w') (first | exact Sees.of (Nat.le_trans hRB hs0) (by assumption) | exact Sees.of (Nat.le_trans hRB hs0) (below_drewN (by assumption) _) | exact (Sees.set (Sees.of (Nat.le_trans hRB hs0) (by assumption)) (by simp)) | exact (Sees.set (Sees.set (Sees.of (Nat.le_trans hRB hs0) (by assumption)) (by simp)) (by simp)))
    (first
      | (go_at_call 102; (with_reducible refine (r_neg_c _ b A n c l ?_ ?_).mono ?_); (exact wa); (omega); rintro e w1 ⟨rfl, hb1⟩; replace hb1 := bnext (below_drewN (brefl _) 1) hb1; have r1 := bnext r0 hb1; replace wa := wa.belw hb1; replace wb := wb.belw hb1)
      | (go_at_call 102; (with_reducible refine (r_neg_c _ b' A' n' c' l' ?_ ?_).mono ?_); (exact wb); (omega); rintro e w2 ⟨rfl, hb2⟩; have r2 := bnext r1 hb2; replace wa := wa.belw hb2; replace wb := wb.belw hb2)
      | (go_at_call 101; (with_reducible refine (r_mag_c _ b A n c l ?_ ?_).mono ?_); (exact wa); (omega); rintro e w3 ⟨A1, n1, c1, rfl, h1, hb3⟩; have r3 := bnext r2 hb3; replace wa := wa.belw hb3; replace wb := wb.belw hb3)
      | (go_at_call 101; (with_reducible refine (r_mag_c _ b' A' n' c' l' ?_ ?_).mono ?_); (exact wb); (omega); rintro e w4 ⟨A2, n2, c2, rfl, h2, hb4⟩; have r4 := bnext r3 hb4; replace wa := wa.belw hb4; replace wb := wb.belw hb4; replace h1 := h1.belw hb4)
      | (go_at_call 106; (with_reducible refine (r_times_c _ A1 n1 c1 (WD.m ⟨b, l⟩) ?_ ?_ A2 n2 c2 (WD.m ⟨b', l'⟩) ?_ ?_).mono ?_); (exact h1); (exact Nat.le_trans (h1.m_len (by rw [← HL.out]; exact hn)) (by decide)); (exact h2); (exact Nat.le_trans (h2.m_len (by rw [← HL'.out]; exact hn')) (by decide)); rintro e w5 ⟨A3, n3, c3, rfl, h3, hb5⟩; have r5 := bnext r4 hb5; replace wa := wa.belw hb5; replace wb := wb.belw hb5; replace h1 := h1.belw hb5; replace h2 := h2.belw hb5)
      | (go_at_call 100; (with_reducible refine (r_form_e _ (!(WD.s ⟨b, l⟩ == WD.s ⟨b', l'⟩)) A3 n3 c3 (digs (val (WD.m ⟨b, l⟩) * val (WD.m ⟨b', l'⟩))) (WD.z ⟨b, l⟩ * WD.z ⟨b', l'⟩) ?_ ?_ ?_).mono ?_); (exact h3); (rw [h3.2.1]; exact times_len h1 h2 (Nat.le_trans (Nat.add_le_add (h1.m_len (by rw [← HL.out]; exact hn)) (h2.m_len (by rw [← HL'.out]; exact hn'))) (by decide))); (rw [val_digs]; exact (z_mul _ _).symm); rintro e w6 ⟨A4, n4, c4, rfl, h4, hb6⟩; have r6 := bnext r5 hb6; replace wa := wa.belw hb6; replace wb := wb.belw hb6; replace h1 := h1.belw hb6; replace h2 := h2.belw hb6; replace h3 := h3.belw hb6; obtain ⟨⟨sc, sf⟩, sr, sz⟩ := Seen.of (by omega) hs0 hm0 r6))
  clear hRB
  go_wp2_with fail
  refine bodyPost_ret (v := .agg #[.bool _, .slice A4 n4 c4]) (by simp [results, Tryz.results70, go_sem, sr]; rfl) rfl ?_
  have x := x2.below r6
  refine retW ?_ ?_ ?_
  · rfl
  · exact h4.keep (kp2 x (by decide) _ _ _ _)
  · exact ((b0.trans (r6.mono b0.size)).setCell (by dsimp only; omega) _).setCell (by dsimp only; omega) _
end Go.Proofs.YtianjkiakkclgaaGreatDoor

/- The reference's Mul on integers. -/
namespace Go.Proofs.YtianjkiakkclgaaGreatDoor
open Go Go.RowKit Bn
attribute [local go_sem ↓] Go.wp_at_zero Go.wp_at_succ
theorem r01_mul (w : World) (b A n c z k) (h : IZ w b A n c z k) (b' A' n' c' z' k') (h' : IZ w b' A' n' c' z' k') (hk : k + k' ≤ 1000000000) : Calls Tryz.prog 70 #[.agg #[.bool b, .slice A n c], .agg #[.bool b', .slice A' n' c']] w (RetI w (z * z') (k + k')) := by
  have hz := h.lt
  have hz' := h'.lt
  obtain ⟨l, h1, rfl, h3⟩ := h
  obtain ⟨l', h1', rfl, h3'⟩ := h'
  exact (r_mul_C w b A n c l h1 (by omega) b' A' n' c' l' h1' (by omega)).mono fun _ _ r => r.i (natAbs_mul_lt hz hz')
end Go.Proofs.YtianjkiakkclgaaGreatDoor

/- Walks: the reference: fractions, sums and differences. -/
namespace Go.Proofs.YtianjkiakkclgaaGreatDoor
open Go Go.RowKit Bn
attribute [local go_sem ↓] Go.wp_at_zero Go.wp_at_succ
theorem g_neg (w : World) (b A n c D m e q k) (h : QZ w b A n c D m e q k) (h0 : 0 < k) (hk : k ≤ 40000000) :
    Calls Tryz.prog 96 #[.agg #[.bool b, .slice A n c, .slice D m e]] w (RetF w (-q) k) := by
  have HS := Lib.hid (h.sz h0)
  go_enter Tryz.func96, Tryz.ntmps96
  go_wp2_with fail
  (with_reducible refine (g_parts _ b A n c D m e (q) (k) ?_ ?_ ?_).mono ?_); (exact (h.belw (((Below.refl _ _).alloc (Nat.le_refl _) _).alloc (by simp) _))); (omega); (omega); rintro e w1 ⟨b1, A1, n1, c1, b'1, A'1, n'1, c'1, rfl, h1, h'1, hb1⟩
  have q1 := hb1.q2
  replace h := h.belw q1
  have x1a : Blk w1 w.heap.size 24 #[.bool b, .slice A n c, .slice D m e] := ((blkAt _ _ _ (by simp)).alloc _).below hb1 (by simp <;> omega)
  have x1b := (blkAt _ _ _ (g := w.heap.size + 1) (by simp)).below hb1 (by simp)
  have bw1 := (brefl w).trans (q1.mono (brefl w).size)
  have lw1 := hb1.l2
  clear q1
  go_wp2_with fail
  have p2 := (((Kp.refl w1).alloc (.cells #[.bool b1, .slice A1 n1 c1] 77)).alloc (.cells #[.bool b'1, .slice A'1 n'1 c'1] 77))
  have bw2 := ((bw1.alloc (by first | omega | (simp <;> omega)) (.cells #[.bool b1, .slice A1 n1 c1] 77)).alloc (by first | omega | (simp <;> omega)) (.cells #[.bool b'1, .slice A'1 n'1 c'1] 77))
  have x2a : Blk ((w1.alloc (.cells #[.bool b1, .slice A1 n1 c1] 77)).alloc (.cells #[.bool b'1, .slice A'1 n'1 c'1] 77)) w1.heap.size 77 #[.bool b1, .slice A1 n1 c1] := ((blkAt _ _ _ (by simp)).alloc (.cells #[.bool b'1, .slice A'1 n'1 c'1] 77))
  have x2b : Blk ((w1.alloc (.cells #[.bool b1, .slice A1 n1 c1] 77)).alloc (.cells #[.bool b'1, .slice A'1 n'1 c'1] 77)) (w1.heap.size + 1) 77 #[.bool b'1, .slice A'1 n'1 c'1] := (blkAt _ _ _ (by simp))
  replace x1a := ((x1a.alloc (.cells #[.bool b1, .slice A1 n1 c1] 77)).alloc (.cells #[.bool b'1, .slice A'1 n'1 c'1] 77))
  replace x1b := ((x1b.alloc (.cells #[.bool b1, .slice A1 n1 c1] 77)).alloc (.cells #[.bool b'1, .slice A'1 n'1 c'1] 77))
  have lw2 : w1.heap.size + 2 ≤ ((w1.alloc (.cells #[.bool b1, .slice A1 n1 c1] 77)).alloc (.cells #[.bool b'1, .slice A'1 n'1 c'1] 77)).heap.size := by simp
  generalize hE2 : ((w1.alloc (.cells #[.bool b1, .slice A1 n1 c1] 77)).alloc (.cells #[.bool b'1, .slice A'1 n'1 c'1] 77)) = w2 at p2 bw2 lw2 x2a x2b x1a x1b ⊢
  clear hE2
  replace h := h.keep p2
  replace h1 := h1.keep p2
  replace h'1 := h'1.keep p2
  clear bw1
  have lx1a := lts0 x1a.lt
  have cx1ba : w2.cell? ⟨w.heap.size + 1, 0, none⟩ = some (.bool false) := x1b.cell 0
  have fx1ba : w2.frozen? ⟨w.heap.size + 1, 0, none⟩ = false := x1b.frozen 0
  have cx1bb : w2.cell? ⟨w.heap.size + 1, 1, none⟩ = some (.slice none 0 0) := x1b.cell 1
  have fx1bb : w2.frozen? ⟨w.heap.size + 1, 1, none⟩ = false := x1b.frozen 1
  have cx1bc : w2.cell? ⟨w.heap.size + 1, 2, none⟩ = some (.slice none 0 0) := x1b.cell 2
  have fx1bc : w2.frozen? ⟨w.heap.size + 1, 2, none⟩ = false := x1b.frozen 2
  have lx1b := lts1 x1b.lt
  have cx2a := x2a.c2
  have lx2a := lts0 x2a.lt
  have cx2b := x2b.c2
  have lx2b := lts1 x2b.lt
  have nfx1_0_0 : ¬ w.heap.size = w.heap.size + 1 := by omega
  have nex1_0_0 : ¬ w.heap.size = w.heap.size + 1 := by omega
  have nfx2_0_0 : ¬ w1.heap.size = w.heap.size + 1 := by omega
  have nex2_0_0 : ¬ w1.heap.size = w.heap.size + 1 := by omega
  have nfx2_1_0 : ¬ w1.heap.size + 1 = w.heap.size + 1 := by omega
  have nex2_1_0 : ¬ w1.heap.size = w.heap.size := by omega
  go_region_held3 (fun w' => SeesX w2.heap.size (w.heap.size + 1) w2 w') (first | with_reducible exact SeesX.of (Nat.le_refl _) (by assumption) | with_reducible exact SeesX.of (Nat.le_refl _) (brefl _).drew | with_reducible exact (SeesX.set (SeesX.set (SeesX.set (SeesX.of (Nat.le_refl _) (by assumption))))) | with_reducible exact (SeesX.set (SeesX.set (SeesX.of (Nat.le_refl _) (by assumption)))) | with_reducible exact (SeesX.set (SeesX.of (Nat.le_refl _) (by assumption))) | exact SeesX.of (Nat.le_refl _) (below_drewN (brefl _) 1) | exact SeesX.of (Nat.le_refl _) (below_drewN (by assumption) _))
    (first
      | (go_at_call 97; (with_reducible refine (r01_neg _ b1 A1 n1 c1 ((q).num) ((k)) ?_ ?_).mono ?_); (exact h1.iz); (omega); rintro e w3 ⟨b3, A3, n3, c3, rfl, h3, hb3⟩; replace hb3 := bnext (below_drewN (brefl _) 1) hb3; have q3 : Below w2.heap.size w2 w3 := bnext (brefl w2) hb3; replace h := h.belw hb3; replace h1 := h1.belw hb3; replace h'1 := h'1.belw hb3)
      | (go_at_call 64; (with_reducible refine (g_form _ b3 A3 n3 c3 (-((q).num)) (((k))) ?_ b'1 A'1 n'1 c'1 (((q).den : Int)) ((k)) ?_ (-q) (k) ?_ ?_ ?_ ?_).mono ?_); (exact h3.iz); (exact h'1.iz); (exact den_ne _); (exact (neg_q q).symm); (exact Sz_neg HS.out); (omega); rintro e w4 ⟨b4, A4, n4, c4, A'4, n'4, c'4, rfl, h4, hb4⟩; have q4 : Below w2.heap.size w2 w4 := bnext q3 hb4; replace h := h.belw hb4; replace h1 := h1.belw hb4; replace h'1 := h'1.belw hb4; replace h3 := h3.belw hb4; have x1b := x1b.b q4; obtain ⟨cx1ba, cx1bb, cx1bc⟩ := x1b.c3; obtain ⟨fx1ba, fx1bb, fx1bc⟩ := x1b.f3))
  have bw4 := bw2.trans (q4.mono bw2.size)
  clear lx1a cx1ba fx1ba cx1bb fx1bb cx1bc fx1bc lx1b cx2a lx2a cx2b lx2b
  replace x1a := x1a.b q4
  replace x2a := x2a.b q4
  replace x2b := x2b.b q4
  have lw4 := q4.size
  obtain ⟨cx1ba, cx1bb, cx1bc⟩ := x1b.c3
  obtain ⟨fx1ba, fx1bb, fx1bc⟩ := x1b.f3
  go_wp2_with fail
  refine bodyPost_ret (v := .agg #[.bool b4, .slice A4 n4 c4, .slice A'4 n'4 c'4]) (by simp [results, Tryz.results96, go_sem, *] <;> trivial) rfl ?_
  exact ⟨b4, A4, n4, c4, A'4, n'4, c'4, rfl, h4.keep ((((Kp.refl w4).sb (w.heap.size + 1) 0 x1b.box (by decide) (.bool b4)).sb (w.heap.size + 1) 1 (x1b.box.set ⟨w.heap.size + 1, 0, none⟩ (.bool b4)) (by decide) (.slice A4 n4 c4)).sb (w.heap.size + 1) 2 ((x1b.box.set ⟨w.heap.size + 1, 0, none⟩ (.bool b4)).set ⟨w.heap.size + 1, 1, none⟩ (.slice A4 n4 c4)) (by decide) (.slice A'4 n'4 c'4)), (((bw4.sc (w.heap.size + 1) 0 (by omega) (.bool b4)).sc (w.heap.size + 1) 1 (by omega) (.slice A4 n4 c4)).sc (w.heap.size + 1) 2 (by omega) (.slice A'4 n'4 c'4))⟩
theorem g_add (w : World) (b A n c D m e q k) (h : QZ w b A n c D m e q k) (b' A' n' c' D' m' e' q' k') (h' : QZ w b' A' n' c' D' m' e' q' k') (h0 : 0 < k) (hk : k ≤ 40000000) (h0' : 0 < k') (hk' : k' ≤ 40000000) :
    Calls Tryz.prog 37 #[.agg #[.bool b, .slice A n c, .slice D m e], .agg #[.bool b', .slice A' n' c', .slice D' m' e']] w (RetF w (q + q') (k + k' + 1)) := by
  have HS := Lib.hid (h.sz h0)
  have HS' := Lib.hid (h'.sz h0')
  go_enter Tryz.func37, Tryz.ntmps37
  go_wp2_with fail
  (with_reducible refine (g_parts _ b A n c D m e (q) (k) ?_ ?_ ?_).mono ?_); (exact (h.belw ((((Below.refl _ _).alloc (Nat.le_refl _) _).alloc (by simp) _).alloc (by simp <;> omega) _))); (omega); (omega); rintro e w1 ⟨b1, A1, n1, c1, b'1, A'1, n'1, c'1, rfl, h1, h'1, hb1⟩
  have q1 := hb1.q3
  replace h := h.belw q1
  replace h' := h'.belw q1
  have x1a : Blk w1 w.heap.size 24 #[.bool b, .slice A n c, .slice D m e] := (((blkAt _ _ _ (by simp)).alloc _).alloc _).below hb1 (by simp <;> omega)
  have x1b := ((blkAt _ _ _ (g := w.heap.size + 1) (by simp)).alloc _).below hb1 (by simp <;> omega)
  have x1c := (blkAt _ _ _ (g := w.heap.size + 1 + 1) (by simp)).below hb1 (by simp)
  have bw1 := (brefl w).trans (q1.mono (brefl w).size)
  have lw1 := hb1.l3
  clear q1
  have cx1b := x1b.c3
  have lx1b := lts1 x1b.lt
  go_wp2_with fail
  (with_reducible refine (g_parts _ b' A' n' c' D' m' e' (q') (k') ?_ ?_ ?_).mono ?_); (exact (h'.belw (((Below.refl _ _).alloc (Nat.le_refl _) _).alloc (by simp) _))); (omega); (omega); rintro e w2 ⟨b2, A2, n2, c2, b'2, A'2, n'2, c'2, rfl, h2, h'2, hb2⟩
  clear cx1b lx1b
  have q2 := hb2.q2
  replace h := h.belw q2
  replace h' := h'.belw q2
  replace h1 := h1.belw q2
  replace h'1 := h'1.belw q2
  replace x1a := x1a.b q2
  replace x1b := x1b.b q2
  replace x1c := x1c.b q2
  have x2a : Blk w2 w1.heap.size 77 #[.bool b1, .slice A1 n1 c1] := ((blkAt _ _ _ (by simp)).alloc _).below hb2 (by simp <;> omega)
  have x2b := (blkAt _ _ _ (g := w1.heap.size + 1) (by simp)).below hb2 (by simp)
  have bw2 := bw1.trans (q2.mono bw1.size)
  have lw2 := hb2.l2
  clear q2 bw1
  go_wp2_with fail
  have p3 := (((Kp.refl w2).alloc (.cells #[.bool b2, .slice A2 n2 c2] 77)).alloc (.cells #[.bool b'2, .slice A'2 n'2 c'2] 77))
  have bw3 := ((bw2.alloc (by first | omega | (simp <;> omega)) (.cells #[.bool b2, .slice A2 n2 c2] 77)).alloc (by first | omega | (simp <;> omega)) (.cells #[.bool b'2, .slice A'2 n'2 c'2] 77))
  have x3a : Blk ((w2.alloc (.cells #[.bool b2, .slice A2 n2 c2] 77)).alloc (.cells #[.bool b'2, .slice A'2 n'2 c'2] 77)) w2.heap.size 77 #[.bool b2, .slice A2 n2 c2] := ((blkAt _ _ _ (by simp)).alloc (.cells #[.bool b'2, .slice A'2 n'2 c'2] 77))
  have x3b : Blk ((w2.alloc (.cells #[.bool b2, .slice A2 n2 c2] 77)).alloc (.cells #[.bool b'2, .slice A'2 n'2 c'2] 77)) (w2.heap.size + 1) 77 #[.bool b'2, .slice A'2 n'2 c'2] := (blkAt _ _ _ (by simp))
  replace x1a := ((x1a.alloc (.cells #[.bool b2, .slice A2 n2 c2] 77)).alloc (.cells #[.bool b'2, .slice A'2 n'2 c'2] 77))
  replace x1b := ((x1b.alloc (.cells #[.bool b2, .slice A2 n2 c2] 77)).alloc (.cells #[.bool b'2, .slice A'2 n'2 c'2] 77))
  replace x1c := ((x1c.alloc (.cells #[.bool b2, .slice A2 n2 c2] 77)).alloc (.cells #[.bool b'2, .slice A'2 n'2 c'2] 77))
  replace x2a := ((x2a.alloc (.cells #[.bool b2, .slice A2 n2 c2] 77)).alloc (.cells #[.bool b'2, .slice A'2 n'2 c'2] 77))
  replace x2b := ((x2b.alloc (.cells #[.bool b2, .slice A2 n2 c2] 77)).alloc (.cells #[.bool b'2, .slice A'2 n'2 c'2] 77))
  have lw3 : w2.heap.size + 2 ≤ ((w2.alloc (.cells #[.bool b2, .slice A2 n2 c2] 77)).alloc (.cells #[.bool b'2, .slice A'2 n'2 c'2] 77)).heap.size := by simp
  generalize hE3 : ((w2.alloc (.cells #[.bool b2, .slice A2 n2 c2] 77)).alloc (.cells #[.bool b'2, .slice A'2 n'2 c'2] 77)) = w3 at p3 bw3 lw3 x3a x3b x1a x1b x1c x2a x2b ⊢
  clear hE3
  replace h := h.keep p3
  replace h' := h'.keep p3
  replace h1 := h1.keep p3
  replace h'1 := h'1.keep p3
  replace h2 := h2.keep p3
  replace h'2 := h'2.keep p3
  clear bw2
  have cx2a := x2a.c2
  have lx2a := lts0 x2a.lt
  have cx2b := x2b.c2
  have lx2b := lts1 x2b.lt
  have cx3a := x3a.c2
  have lx3a := lts0 x3a.lt
  have cx3b := x3b.c2
  have lx3b := lts1 x3b.lt
  refine wp_region_lin (B := w.heap.size) (fr := fun xf => ⟨List.toArray (.agg #[.bool b, .slice A n c, .slice D m e] :: .agg #[.bool b', .slice A' n' c', .slice D' m' e'] :: .pointer (some ⟨w.heap.size, 0, none⟩) :: .pointer (some ⟨w.heap.size + 1, 0, none⟩) :: .pointer (some ⟨w.heap.size + 1 + 1, 0, none⟩) :: .pointer (some ⟨w1.heap.size, 0, none⟩) :: .pointer (some ⟨w1.heap.size + 1, 0, none⟩) :: .pointer (some ⟨w2.heap.size, 0, none⟩) :: .pointer (some ⟨w2.heap.size + 1, 0, none⟩) :: .tuple #[.agg #[.bool b1, .slice A1 n1 c1], .agg #[.bool b'1, .slice A'1 n'1 c'1]] :: .agg #[.bool b, .slice A n c, .slice D m e] :: .tuple #[.agg #[.bool b1, .slice A1 n1 c1], .agg #[.bool b'1, .slice A'1 n'1 c'1]] :: .agg #[.bool b1, .slice A1 n1 c1] :: .agg #[.bool b'1, .slice A'1 n'1 c'1] :: .tuple #[.agg #[.bool b2, .slice A2 n2 c2], .agg #[.bool b'2, .slice A'2 n'2 c'2]] :: .agg #[.bool b', .slice A' n' c', .slice D' m' e'] :: .tuple #[.agg #[.bool b2, .slice A2 n2 c2], .agg #[.bool b'2, .slice A'2 n'2 c'2]] :: .agg #[.bool b2, .slice A2 n2 c2] :: .agg #[.bool b'2, .slice A'2 n'2 c'2] :: xf 0 :: xf 1 :: xf 2 :: xf 3 :: xf 4 :: xf 5 :: xf 6 :: xf 7 :: xf 8 :: xf 9 :: xf 10 :: []), []⟩) (R := fun i => List.getD ((PEq (.agg #[.bool b1, .slice A1 n1 c1])) :: (PEq (.agg #[.bool b'2, .slice A'2 n'2 c'2])) :: (VI (((q).num) * (((q').den : Int))) (((k)) + ((k')))) :: (PEq (.agg #[.bool b2, .slice A2 n2 c2])) :: (PEq (.agg #[.bool b'1, .slice A'1 n'1 c'1])) :: (VI (((q').num) * (((q).den : Int))) (((k')) + ((k)))) :: (VI ((((q).num) * (((q').den : Int))) + (((q').num) * (((q).den : Int)))) ((((k)) + ((k'))) + (((k')) + ((k))) + 1)) :: (PEq (.agg #[.bool b'1, .slice A'1 n'1 c'1])) :: (PEq (.agg #[.bool b'2, .slice A'2 n'2 c'2])) :: (VI ((((q).den : Int)) * (((q').den : Int))) (((k)) + ((k')))) :: (VQ (q + q') (k + k' + 1)) :: PAny :: []) i (fun _ _ => True)) (es := []) (ow := [⟨w.heap.size, 12, 0, 24, #[.bool b, .slice A n c, .slice D m e], CAny⟩, ⟨w.heap.size + 1, 12, 0, 24, #[.bool b', .slice A' n' c', .slice D' m' e'], CAny⟩, ⟨w.heap.size + 1 + 1, 11, 0, 24, #[.bool false, .slice none 0 0, .slice none 0 0], CQ (q + q') (k + k' + 1)⟩, ⟨w1.heap.size, 12, 0, 77, #[.bool b1, .slice A1 n1 c1], CAny⟩, ⟨w1.heap.size + 1, 12, 0, 77, #[.bool b'1, .slice A'1 n'1 c'1], CAny⟩, ⟨w2.heap.size, 12, 0, 77, #[.bool b2, .slice A2 n2 c2], CAny⟩, ⟨w2.heap.size + 1, 12, 0, 77, #[.bool b'2, .slice A'2 n'2 c'2], CAny⟩]) (x0 := (fun _ => undef)) (by kernel_rfl)
    (each_of ⟨fun _ _ => rfl, fun _ _ => rfl, fun _ _ => rfl, fun _ _ => rfl, fun _ _ => rfl, fun _ _ => rfl, fun _ _ => rfl, fun _ _ => rfl, fun _ _ => rfl, fun _ _ => rfl, fun _ _ => rfl, fun _ _ => rfl, trivial⟩) (each_of (acyc_from _ 0 (by kernel_rfl))) (AllStab.get _ ⟨stEq _, stEq _, stI _ _, stEq _, stEq _, stI _ _, stI _ _, stEq _, stEq _, stI _ _, stQ _ _, stAny, trivial⟩)
    (fun _ h => nomatch h) (fmc ⟨scAny, fmc ⟨scAny, fmc ⟨scQ _ _, fmc ⟨scAny, fmc ⟨scAny, fmc ⟨scAny, fmc ⟨scAny, fun _ h => nomatch h⟩⟩⟩⟩⟩⟩⟩) (fun _ h => nomatch h) bw3.size
    (fmc ⟨⟨x1a, by show w.heap.size ≤ w.heap.size; omega⟩, fmc ⟨⟨x1b, by show w.heap.size ≤ w.heap.size + 1; omega⟩, fmc ⟨⟨x1c, by show w.heap.size ≤ w.heap.size + 1 + 1; omega⟩, fmc ⟨⟨x2a, by show w.heap.size ≤ w1.heap.size; omega⟩, fmc ⟨⟨x2b, by show w.heap.size ≤ w1.heap.size + 1; omega⟩, fmc ⟨⟨x3a, by show w.heap.size ≤ w2.heap.size; omega⟩, fmc ⟨⟨x3b, by show w.heap.size ≤ w2.heap.size + 1; omega⟩, fun _ h => nomatch h⟩⟩⟩⟩⟩⟩⟩) (ownDist (by simp <;> omega))
    (each_of ⟨?_, ?_, ?_, ?_, ?_, ?_, ?_, ?_, ?_, ?_, ?_, ?_, trivial⟩) ?_
  · exact .inl ⟨by simp, by simp, fun xf wq hk hbl hd K hK => by
      have y : Blk wq w1.heap.size 77 #[.bool b1, .slice A1 n1 c1] := hbl _ (List.Mem.tail _ (List.Mem.tail _ (List.Mem.tail _ (List.Mem.head _)))) (by simp [Region.binds])
      obtain ⟨hcl0, hcl1⟩ := y.c2
      (try dsimp only)
      go_simp
      exact hK.out (.agg #[.bool b1, .slice A1 n1 c1]) _ rfl (brefl _)⟩
  · exact .inl ⟨by simp, by simp, fun xf wq hk hbl hd K hK => by
      have y : Blk wq (w2.heap.size + 1) 77 #[.bool b'2, .slice A'2 n'2 c'2] := hbl _ (List.Mem.tail _ (List.Mem.tail _ (List.Mem.tail _ (List.Mem.tail _ (List.Mem.tail _ (List.Mem.tail _ (List.Mem.head _))))))) (by simp [Region.binds])
      obtain ⟨hcl0, hcl1⟩ := y.c2
      (try dsimp only)
      go_simp
      exact hK.out (.agg #[.bool b'2, .slice A'2 n'2 c'2]) _ rfl (brefl _)⟩
  · exact .inl ⟨by simp, by simp, fun xf wq hk hbl hd K hK => by
      have d0 : xf 0 = .agg #[.bool b1, .slice A1 n1 c1] := hd ⟨0, .data⟩ (by simp) rfl
      have d1 : xf 1 = .agg #[.bool b'2, .slice A'2 n'2 c'2] := hd ⟨1, .data⟩ (by simp) rfl
      (try dsimp only); (try simp only [d0, d1])
      go_simp
      go_at_call 70
      (with_reducible refine (r01_mul _ b1 A1 n1 c1 ((q).num) ((k)) ?_ b'2 A'2 n'2 c'2 (((q').den : Int)) ((k')) ?_ ?_).mono ?_); (exact (h1.keep hk).iz); (exact (h'2.keep hk).iz); (omega); rintro e wr ⟨b5, A5, n5, c5, rfl, h5, hbr⟩
      have hz := hK.out _ _ ⟨b5, A5, n5, c5, rfl, h5⟩ hbr
      simp only [d0, d1] at hz
      exact hz⟩
  · exact .inl ⟨by simp, by simp, fun xf wq hk hbl hd K hK => by
      have y : Blk wq w2.heap.size 77 #[.bool b2, .slice A2 n2 c2] := hbl _ (List.Mem.tail _ (List.Mem.tail _ (List.Mem.tail _ (List.Mem.tail _ (List.Mem.tail _ (List.Mem.head _)))))) (by simp [Region.binds])
      obtain ⟨hcl0, hcl1⟩ := y.c2
      (try dsimp only)
      go_simp
      exact hK.out (.agg #[.bool b2, .slice A2 n2 c2]) _ rfl (brefl _)⟩
  · exact .inl ⟨by simp, by simp, fun xf wq hk hbl hd K hK => by
      have y : Blk wq (w1.heap.size + 1) 77 #[.bool b'1, .slice A'1 n'1 c'1] := hbl _ (List.Mem.tail _ (List.Mem.tail _ (List.Mem.tail _ (List.Mem.tail _ (List.Mem.head _))))) (by simp [Region.binds])
      obtain ⟨hcl0, hcl1⟩ := y.c2
      (try dsimp only)
      go_simp
      exact hK.out (.agg #[.bool b'1, .slice A'1 n'1 c'1]) _ rfl (brefl _)⟩
  · exact .inl ⟨by simp, by simp, fun xf wq hk hbl hd K hK => by
      have d3 : xf 3 = .agg #[.bool b2, .slice A2 n2 c2] := hd ⟨3, .data⟩ (by simp) rfl
      have d4 : xf 4 = .agg #[.bool b'1, .slice A'1 n'1 c'1] := hd ⟨4, .data⟩ (by simp) rfl
      (try dsimp only); (try simp only [d3, d4])
      go_simp
      go_at_call 70
      (with_reducible refine (r01_mul _ b2 A2 n2 c2 ((q').num) ((k')) ?_ b'1 A'1 n'1 c'1 (((q).den : Int)) ((k)) ?_ ?_).mono ?_); (exact (h2.keep hk).iz); (exact (h'1.keep hk).iz); (omega); rintro e wr ⟨b6, A6, n6, c6, rfl, h6, hbr⟩
      have hz := hK.out _ _ ⟨b6, A6, n6, c6, rfl, h6⟩ hbr
      simp only [d3, d4] at hz
      exact hz⟩
  · exact .inl ⟨by simp, by simp, fun xf wq hk hbl hd K hK => by
      obtain ⟨b5, A5, n5, c5, d2, h5⟩ : VI (((q).num) * (((q').den : Int))) (((k)) + ((k'))) (xf 2) wq := hd ⟨2, .data⟩ (by simp) rfl
      obtain ⟨b6, A6, n6, c6, d5, h6⟩ : VI (((q').num) * (((q).den : Int))) (((k')) + ((k))) (xf 5) wq := hd ⟨5, .data⟩ (by simp) rfl
      (try dsimp only); (try simp only [d2, d5])
      go_simp
      go_at_call 69
      (with_reducible refine (r01_add _ b5 A5 n5 c5 (((q).num) * (((q').den : Int))) (((k)) + ((k'))) ?_ b6 A6 n6 c6 (((q').num) * (((q).den : Int))) (((k')) + ((k))) ?_ ?_).mono ?_); (exact h5.iz); (exact h6.iz); (omega); rintro e wr ⟨b7, A7, n7, c7, rfl, h7, hbr⟩
      have hz := hK.out _ _ ⟨b7, A7, n7, c7, rfl, h7⟩ hbr
      simp only [d2, d5] at hz
      exact hz⟩
  · exact .inl ⟨by simp, by simp, fun xf wq hk hbl hd K hK => by
      have y : Blk wq (w1.heap.size + 1) 77 #[.bool b'1, .slice A'1 n'1 c'1] := hbl _ (List.Mem.tail _ (List.Mem.tail _ (List.Mem.tail _ (List.Mem.tail _ (List.Mem.head _))))) (by simp [Region.binds])
      obtain ⟨hcl0, hcl1⟩ := y.c2
      (try dsimp only)
      go_simp
      exact hK.out (.agg #[.bool b'1, .slice A'1 n'1 c'1]) _ rfl (brefl _)⟩
  · exact .inl ⟨by simp, by simp, fun xf wq hk hbl hd K hK => by
      have y : Blk wq (w2.heap.size + 1) 77 #[.bool b'2, .slice A'2 n'2 c'2] := hbl _ (List.Mem.tail _ (List.Mem.tail _ (List.Mem.tail _ (List.Mem.tail _ (List.Mem.tail _ (List.Mem.tail _ (List.Mem.head _))))))) (by simp [Region.binds])
      obtain ⟨hcl0, hcl1⟩ := y.c2
      (try dsimp only)
      go_simp
      exact hK.out (.agg #[.bool b'2, .slice A'2 n'2 c'2]) _ rfl (brefl _)⟩
  · exact .inl ⟨by simp, by simp, fun xf wq hk hbl hd K hK => by
      have d7 : xf 7 = .agg #[.bool b'1, .slice A'1 n'1 c'1] := hd ⟨7, .data⟩ (by simp) rfl
      have d8 : xf 8 = .agg #[.bool b'2, .slice A'2 n'2 c'2] := hd ⟨8, .data⟩ (by simp) rfl
      (try dsimp only); (try simp only [d7, d8])
      go_simp
      go_at_call 70
      (with_reducible refine (r01_mul _ b'1 A'1 n'1 c'1 (((q).den : Int)) ((k)) ?_ b'2 A'2 n'2 c'2 (((q').den : Int)) ((k')) ?_ ?_).mono ?_); (exact (h'1.keep hk).iz); (exact (h'2.keep hk).iz); (omega); rintro e wr ⟨b8, A8, n8, c8, rfl, h8, hbr⟩
      have hz := hK.out _ _ ⟨b8, A8, n8, c8, rfl, h8⟩ hbr
      simp only [d7, d8] at hz
      exact hz⟩
  · exact .inl ⟨by simp, by simp, fun xf wq hk hbl hd K hK => by
      obtain ⟨b7, A7, n7, c7, d6, h7⟩ : VI ((((q).num) * (((q').den : Int))) + (((q').num) * (((q).den : Int)))) ((((k)) + ((k'))) + (((k')) + ((k))) + 1) (xf 6) wq := hd ⟨6, .data⟩ (by simp) rfl
      obtain ⟨b8, A8, n8, c8, d9, h8⟩ : VI ((((q).den : Int)) * (((q').den : Int))) (((k)) + ((k'))) (xf 9) wq := hd ⟨9, .data⟩ (by simp) rfl
      (try dsimp only); (try simp only [d6, d9])
      go_simp
      go_at_call 64
      (with_reducible refine (g_form _ b7 A7 n7 c7 ((((q).num) * (((q').den : Int))) + (((q').num) * (((q).den : Int)))) ((((k)) + ((k'))) + (((k')) + ((k))) + 1) ?_ b8 A8 n8 c8 ((((q).den : Int)) * (((q').den : Int))) (((k)) + ((k'))) ?_ (q + q') (k + k' + 1) ?_ ?_ ?_ ?_).mono ?_); (exact h7.iz); (exact h8.iz); (exact Int.mul_ne_zero (den_ne _) (den_ne _)); (exact (add_q _ _).symm); (exact Sz_add HS.out HS'.out); (omega); rintro e wr ⟨b9, A9, n9, c9, A'9, n'9, c'9, rfl, h9, hbr⟩
      have hz := hK.out _ _ ⟨b9, A9, n9, c9, A'9, n'9, c'9, rfl, h9⟩ hbr
      simp only [d6, d9] at hz
      exact hz⟩
  · exact .inr (.inr (.inr ⟨⟨w.heap.size + 1 + 1, 11, 0, 24, #[.bool false, .slice none 0 0, .slice none 0 0], CQ (q + q') (k + k' + 1)⟩, by simp, rfl, by simp, by simp, (show KT 24 = false by decide), fun _ _ => True.intro, fun xf wq hblk hd => by
      obtain ⟨b9, A9, n9, c9, A'9, n'9, c'9, d10, h9⟩ : VQ (q + q') (k + k' + 1) (xf 10) wq := hd ⟨10, .data⟩ (by simp) rfl
      dsimp only at hblk
      refine ⟨[.bool b9, .slice A9 n9 c9, .slice A'9 n'9 c'9], fun w' hk => ⟨b9, A9, n9, c9, A'9, n'9, c'9, rfl, h9.keep hk⟩, fun K hK => ?_⟩
      have hc0 : wq.cell? ⟨w.heap.size + 1 + 1, 0, none⟩ = some (.bool false) := hblk.cell 0
      have hc1 : wq.cell? ⟨w.heap.size + 1 + 1, 1, none⟩ = some (.slice none 0 0) := hblk.cell 1
      have hc2 : wq.cell? ⟨w.heap.size + 1 + 1, 2, none⟩ = some (.slice none 0 0) := hblk.cell 2
      have hf0 : wq.frozen? ⟨w.heap.size + 1 + 1, 0, none⟩ = false := hblk.frozen 0
      have hf1 : wq.frozen? ⟨w.heap.size + 1 + 1, 1, none⟩ = false := hblk.frozen 1
      have hf2 : wq.frozen? ⟨w.heap.size + 1 + 1, 2, none⟩ = false := hblk.frozen 2
      (try dsimp only)
      simp only [d10]
      go_simp
      have hz := hK.out undef
      simp only [d10] at hz
      exact hz⟩))
  clear cx2a lx2a cx2b lx2b cx3a lx3a cx3b lx3b
  intro y4 w4 kq4 hbl4 lw4 how hrr hfl hds
  replace h := h.keep kq4
  replace h' := h'.keep kq4
  replace h1 := h1.keep kq4
  replace h'1 := h'1.keep kq4
  replace h2 := h2.keep kq4
  replace h'2 := h'2.keep kq4
  obtain ⟨_, z4_0, ez, _⟩ := how _ (List.Mem.head _)
  obtain rfl := ez (by simp)
  dsimp only at z4_0
  obtain ⟨_, z4_1, ez, _⟩ := how _ (List.Mem.tail _ (List.Mem.head _))
  obtain rfl := ez (by simp)
  dsimp only at z4_1
  obtain ⟨_, z4_2, _, ez⟩ := how _ (List.Mem.tail _ (List.Mem.tail _ (List.Mem.head _)))
  obtain ⟨b9, A9, n9, c9, A'9, n'9, c'9, rfl, h9⟩ := ez (by simp)
  dsimp only at z4_2
  obtain ⟨_, z4_3, ez, _⟩ := how _ (List.Mem.tail _ (List.Mem.tail _ (List.Mem.tail _ (List.Mem.head _))))
  obtain rfl := ez (by simp)
  dsimp only at z4_3
  obtain ⟨_, z4_4, ez, _⟩ := how _ (List.Mem.tail _ (List.Mem.tail _ (List.Mem.tail _ (List.Mem.tail _ (List.Mem.head _)))))
  obtain rfl := ez (by simp)
  dsimp only at z4_4
  obtain ⟨_, z4_5, ez, _⟩ := how _ (List.Mem.tail _ (List.Mem.tail _ (List.Mem.tail _ (List.Mem.tail _ (List.Mem.tail _ (List.Mem.head _))))))
  obtain rfl := ez (by simp)
  dsimp only at z4_5
  obtain ⟨_, z4_6, ez, _⟩ := how _ (List.Mem.tail _ (List.Mem.tail _ (List.Mem.tail _ (List.Mem.tail _ (List.Mem.tail _ (List.Mem.tail _ (List.Mem.head _)))))))
  obtain rfl := ez (by simp)
  dsimp only at z4_6
  (try dsimp only)
  clear hrr hfl how hds 
  clear x1a x1b x1c x2a x2b x3a x3b
  have bw4 := bw3.trans hbl4
  clear bw3
  have cz4_2_0 : w4.cell? ⟨w.heap.size + 1 + 1, 0, none⟩ = some (.bool b9) := z4_2.cell 0
  have cz4_2_1 : w4.cell? ⟨w.heap.size + 1 + 1, 1, none⟩ = some (.slice A9 n9 c9) := z4_2.cell 1
  have cz4_2_2 : w4.cell? ⟨w.heap.size + 1 + 1, 2, none⟩ = some (.slice A'9 n'9 c'9) := z4_2.cell 2
  have lz4_2 := lts2 z4_2.lt
  go_wp2_with fail
  refine bodyPost_ret (v := .agg #[.bool b9, .slice A9 n9 c9, .slice A'9 n'9 c'9]) (by simp [results, Tryz.results37, go_sem, *] <;> trivial) rfl ?_
  exact ⟨b9, A9, n9, c9, A'9, n'9, c'9, rfl, h9.keep (Kp.refl w4), bw4⟩
theorem g_sub (w : World) (b A n c D m e q k) (h : QZ w b A n c D m e q k) (b' A' n' c' D' m' e' q' k') (h' : QZ w b' A' n' c' D' m' e' q' k') (h0 : 0 < k) (hk : k ≤ 40000000) (h0' : 0 < k') (hk' : k' ≤ 40000000) :
    Calls Tryz.prog 62 #[.agg #[.bool b, .slice A n c, .slice D m e], .agg #[.bool b', .slice A' n' c', .slice D' m' e']] w (RetF w (q - q') (k + k' + 1)) := by
  rw [show q - q' = q + -q' from Rat.sub_eq_add_neg q q']
  go_enter Tryz.func62, Tryz.ntmps62
  go_wp2_with fail
  have p1 := ((((Kp.refl w).alloc (.cells #[.bool b, .slice A n c, .slice D m e] 24)).alloc (.cells #[.bool b', .slice A' n' c', .slice D' m' e'] 24)).alloc (.cells #[.bool false, .slice none 0 0, .slice none 0 0] 24))
  have bw1 := ((((brefl w).alloc (by first | omega | (simp <;> omega)) (.cells #[.bool b, .slice A n c, .slice D m e] 24)).alloc (by first | omega | (simp <;> omega)) (.cells #[.bool b', .slice A' n' c', .slice D' m' e'] 24)).alloc (by first | omega | (simp <;> omega)) (.cells #[.bool false, .slice none 0 0, .slice none 0 0] 24))
  have x1a : Blk (((w.alloc (.cells #[.bool b, .slice A n c, .slice D m e] 24)).alloc (.cells #[.bool b', .slice A' n' c', .slice D' m' e'] 24)).alloc (.cells #[.bool false, .slice none 0 0, .slice none 0 0] 24)) w.heap.size 24 #[.bool b, .slice A n c, .slice D m e] := (((blkAt _ _ _ (by simp)).alloc (.cells #[.bool b', .slice A' n' c', .slice D' m' e'] 24)).alloc (.cells #[.bool false, .slice none 0 0, .slice none 0 0] 24))
  have x1b : Blk (((w.alloc (.cells #[.bool b, .slice A n c, .slice D m e] 24)).alloc (.cells #[.bool b', .slice A' n' c', .slice D' m' e'] 24)).alloc (.cells #[.bool false, .slice none 0 0, .slice none 0 0] 24)) (w.heap.size + 1) 24 #[.bool b', .slice A' n' c', .slice D' m' e'] := ((blkAt _ _ _ (by simp)).alloc (.cells #[.bool false, .slice none 0 0, .slice none 0 0] 24))
  have x1c : Blk (((w.alloc (.cells #[.bool b, .slice A n c, .slice D m e] 24)).alloc (.cells #[.bool b', .slice A' n' c', .slice D' m' e'] 24)).alloc (.cells #[.bool false, .slice none 0 0, .slice none 0 0] 24)) (w.heap.size + 1 + 1) 24 #[.bool false, .slice none 0 0, .slice none 0 0] := (blkAt _ _ _ (by simp))
  have lw1 : w.heap.size + 3 ≤ (((w.alloc (.cells #[.bool b, .slice A n c, .slice D m e] 24)).alloc (.cells #[.bool b', .slice A' n' c', .slice D' m' e'] 24)).alloc (.cells #[.bool false, .slice none 0 0, .slice none 0 0] 24)).heap.size := by simp
  generalize hE1 : (((w.alloc (.cells #[.bool b, .slice A n c, .slice D m e] 24)).alloc (.cells #[.bool b', .slice A' n' c', .slice D' m' e'] 24)).alloc (.cells #[.bool false, .slice none 0 0, .slice none 0 0] 24)) = w1 at p1 bw1 lw1 x1a x1b x1c ⊢
  clear hE1
  replace h := h.keep p1
  replace h' := h'.keep p1
  have cx1a := x1a.c3
  have lx1a := lts0 x1a.lt
  have cx1b := x1b.c3
  have lx1b := lts1 x1b.lt
  obtain ⟨cx1ca, cx1cb, cx1cc⟩ := x1c.c3
  obtain ⟨fx1ca, fx1cb, fx1cc⟩ := x1c.f3
  have lx1c := lts2 x1c.lt
  have nfx1_0_0 : ¬ w.heap.size = w.heap.size + 1 + 1 := by omega
  have nex1_0_0 : ¬ w.heap.size = w.heap.size + 2 := by omega
  have nfx1_1_0 : ¬ w.heap.size + 1 = w.heap.size + 1 + 1 := by omega
  have nex1_1_0 : ¬ w.heap.size = w.heap.size + 1 := by omega
  go_region_held3 (fun w' => SeesX w1.heap.size (w.heap.size + 1 + 1) w1 w') (first | with_reducible exact SeesX.of (Nat.le_refl _) (by assumption) | with_reducible exact SeesX.of (Nat.le_refl _) (brefl _).drew | with_reducible exact (SeesX.set (SeesX.set (SeesX.set (SeesX.of (Nat.le_refl _) (by assumption))))) | with_reducible exact (SeesX.set (SeesX.set (SeesX.of (Nat.le_refl _) (by assumption)))) | with_reducible exact (SeesX.set (SeesX.of (Nat.le_refl _) (by assumption))) | exact SeesX.of (Nat.le_refl _) (below_drewN (brefl _) 1) | exact SeesX.of (Nat.le_refl _) (below_drewN (by assumption) _))
    (first
      | (go_at_call 96; (with_reducible refine (g_neg _ b' A' n' c' D' m' e' (q') (k') ?_ ?_ ?_).mono ?_); (exact h'); (omega); (omega); rintro e w2 ⟨b2, A2, n2, c2, A'2, n'2, c'2, rfl, h2, hb2⟩; replace hb2 := bnext (below_drewN (brefl _) 1) hb2; have q2 : Below w1.heap.size w1 w2 := bnext (brefl w1) hb2; replace h := h.belw hb2; replace h' := h'.belw hb2)
      | (go_at_call 37; (with_reducible refine (g_add _ b A n c D m e (q) (k) ?_ b2 A2 n2 c2 A'2 n'2 c'2 (-(q')) ((k')) ?_ ?_ ?_ ?_ ?_).mono ?_); (exact h); (exact h2.qz); (omega); (omega); (omega); (omega); rintro e w3 ⟨b3, A3, n3, c3, A'3, n'3, c'3, rfl, h3, hb3⟩; have q3 : Below w1.heap.size w1 w3 := bnext q2 hb3; replace h := h.belw hb3; replace h' := h'.belw hb3; replace h2 := h2.belw hb3; have x1c := x1c.b q3; obtain ⟨cx1ca, cx1cb, cx1cc⟩ := x1c.c3; obtain ⟨fx1ca, fx1cb, fx1cc⟩ := x1c.f3))
  have bw3 := bw1.trans (q3.mono bw1.size)
  clear cx1a lx1a cx1b lx1b cx1ca fx1ca cx1cb fx1cb cx1cc fx1cc lx1c
  replace x1a := x1a.b q3
  replace x1b := x1b.b q3
  have lw3 := q3.size
  obtain ⟨cx1ca, cx1cb, cx1cc⟩ := x1c.c3
  obtain ⟨fx1ca, fx1cb, fx1cc⟩ := x1c.f3
  go_wp2_with fail
  refine bodyPost_ret (v := .agg #[.bool b3, .slice A3 n3 c3, .slice A'3 n'3 c'3]) (by simp [results, Tryz.results62, go_sem, *] <;> trivial) rfl ?_
  exact ⟨b3, A3, n3, c3, A'3, n'3, c'3, rfl, h3.keep ((((Kp.refl w3).sb (w.heap.size + 1 + 1) 0 x1c.box (by decide) (.bool b3)).sb (w.heap.size + 1 + 1) 1 (x1c.box.set ⟨w.heap.size + 1 + 1, 0, none⟩ (.bool b3)) (by decide) (.slice A3 n3 c3)).sb (w.heap.size + 1 + 1) 2 ((x1c.box.set ⟨w.heap.size + 1 + 1, 0, none⟩ (.bool b3)).set ⟨w.heap.size + 1 + 1, 1, none⟩ (.slice A3 n3 c3)) (by decide) (.slice A'3 n'3 c'3)), (((bw3.sc (w.heap.size + 1 + 1) 0 (by omega) (.bool b3)).sc (w.heap.size + 1 + 1) 1 (by omega) (.slice A3 n3 c3)).sc (w.heap.size + 1 + 1) 2 (by omega) (.slice A'3 n'3 c'3))⟩
theorem g_cmp (w : World) (b A n c D m e q k) (h : QZ w b A n c D m e q k) (b' A' n' c' D' m' e' q' k') (h' : QZ w b' A' n' c' D' m' e' q' k') (h0 : 0 < k) (hk : k ≤ 10000000) (h0' : 0 < k') (hk' : k' ≤ 10000000) :
  Calls Tryz.prog 32 #[.agg #[.bool b, .slice A n c, .slice D m e], .agg #[.bool b', .slice A' n' c', .slice D' m' e']] w (RetV w (.int .i64 (q - q').num.sign)) := by
 go_enter Tryz.func32, Tryz.ntmps32
 go_wp2_with fail
 (with_reducible refine (g_sub _ b A n c D m e (q) (k) ?_ b' A' n' c' D' m' e' (q') (k') ?_ ?_ ?_ ?_ ?_).mono ?_); (exact (h.belw (((Below.refl _ _).alloc (Nat.le_refl _) _).alloc (by simp) _))); (exact (h'.belw (((Below.refl _ _).alloc (Nat.le_refl _) _).alloc (by simp) _))); (omega); (omega); (omega); (omega); rintro e w1 ⟨b1, A1, n1, c1, A'1, n'1, c'1, rfl, h1, hb1⟩
 have q1 := hb1.q2
 replace h := h.belw q1
 replace h' := h'.belw q1
 have x1a : Blk w1 w.heap.size 24 #[.bool b, .slice A n c, .slice D m e] := ((blkAt _ _ _ (by simp)).alloc _).below hb1 (by simp <;> omega)
 have x1b := (blkAt _ _ _ (g := w.heap.size + 1) (by simp)).below hb1 (by simp)
 have bw1 := (brefl w).trans (q1.mono (brefl w).size)
 have lw1 := hb1.l2
 clear q1
 go_wp2_with fail
 (with_reducible refine (g_sign _ b1 A1 n1 c1 A'1 n'1 c'1 ((q) - (q')) ((k) + (k') + 1) ?_ ?_ ?_).mono ?_); (exact h1.qz); (omega); (omega); rintro e w2 ⟨rfl, q2⟩
 replace h := h.belw q2
 replace h' := h'.belw q2
 replace h1 := h1.belw q2
 replace x1a := x1a.b q2
 replace x1b := x1b.b q2
 have bw2 := bw1.trans (q2.mono bw1.size)
 have lw2 := q2.size
 clear q2 bw1
 go_wp2_with fail
 go_ret
 exact retI rfl bw2
theorem g_from (w : World) (b A n c z k) (h : IZ w b A n c z k) (b' A' n' c' z' k') (h' : IZ w b' A' n' c' z' k') (q : Rat) (K : Nat) (hd : z' ≠ 0) (hq : Rat.divInt z z' = q) (hs : Sz q K) (hk : k + k' ≤ 300000000) :
  Calls Tryz.prog 78 #[.agg #[.bool b, .slice A n c], .agg #[.bool b', .slice A' n' c']] w (RetFe w (.int .i64 0) q K) := by
 obtain ⟨s, hs1⟩ : ∃ s, z'.sign = s := ⟨_, rfl⟩
 have e0 : ((s : Int) == 0) = false := by simp; rintro rfl; exact hd (Int.sign_eq_zero_iff_zero.1 hs1)
 have HS1 := Lib.hid hs1
 have HD := Lib.hid hd
 have HQ := Lib.hid hq
 have HS := Lib.hid hs
 clear hs1 hd hq hs
 go_enter Tryz.func78, Tryz.ntmps78
 go_wp2_with fail
 (with_reducible refine (r01_sign_e _ b' A' n' c' (z') (k') ?_ s ?_ ?_).mono ?_); (exact (h'.belw ((((Below.refl _ _).alloc (Nat.le_refl _) _).alloc (by simp) _).alloc (by simp <;> omega) _))); (exact HS1.out); (omega); rintro e w1 ⟨rfl, hb1⟩
 have q1 := hb1.q3
 replace h := h.belw q1
 replace h' := h'.belw q1
 have x1a : Blk w1 w.heap.size 77 #[.bool b, .slice A n c] := (((blkAt _ _ _ (by simp)).alloc _).alloc _).below hb1 (by simp <;> omega)
 have x1b := ((blkAt _ _ _ (g := w.heap.size + 1) (by simp)).alloc _).below hb1 (by simp <;> omega)
 have x1c := (blkAt _ _ _ (g := w.heap.size + 1 + 1) (by simp)).below hb1 (by simp)
 have bw1 := (brefl w).trans (q1.mono (brefl w).size)
 have lw1 := hb1.l3
 clear q1
 have cx1a := x1a.c2
 have lx1a := lts0 x1a.lt
 have cx1b := x1b.c2
 have lx1b := lts1 x1b.lt
 go_wp2_with fail
 (with_reducible refine (g_form _ b A n c (z) (k) ?_ b' A' n' c' (z') (k') ?_ q K ?_ ?_ ?_ ?_).mono ?_); (exact h); (exact h'); (exact HD.out); (exact HQ.out); (exact HS.out); (omega); rintro e w2 ⟨b2, A2, n2, c2, A'2, n'2, c'2, rfl, h2, q2⟩
 clear cx1a lx1a cx1b lx1b
 replace h := h.belw q2
 replace h' := h'.belw q2
 replace x1a := x1a.b q2
 replace x1b := x1b.b q2
 replace x1c := x1c.b q2
 have bw2 := bw1.trans (q2.mono bw1.size)
 have lw2 := q2.size
 clear q2 bw1
 have cx1c := x1c.c3
 have fx1c := x1c.f3
 have lx1c := lts2 x1c.lt
 go_wp2_with fail
 refine bodyPost_ret (v := .tuple #[.agg #[.bool b2, .slice A2 n2 c2, .slice A'2 n'2 c'2], .int .i64 0]) (by simp [results, Tryz.results78, go_sem, *] <;> trivial) rfl ?_
 exact ⟨b2, A2, n2, c2, A'2, n'2, c'2, rfl, h2.keep ((((Kp.refl w2).sb (w.heap.size + 1 + 1) 0 x1c.box (by decide) (.bool b2)).sb (w.heap.size + 1 + 1) 1 (x1c.box.set ⟨w.heap.size + 1 + 1, 0, none⟩ (.bool b2)) (by decide) (.slice A2 n2 c2)).sb (w.heap.size + 1 + 1) 2 ((x1c.box.set ⟨w.heap.size + 1 + 1, 0, none⟩ (.bool b2)).set ⟨w.heap.size + 1 + 1, 1, none⟩ (.slice A2 n2 c2)) (by decide) (.slice A'2 n'2 c'2)), (((bw2.sc (w.heap.size + 1 + 1) 0 (by omega) (.bool b2)).sc (w.heap.size + 1 + 1) 1 (by omega) (.slice A2 n2 c2)).sc (w.heap.size + 1 + 1) 2 (by omega) (.slice A'2 n'2 c'2))⟩
theorem g_make (w : World) (i j : Int) (hi : -4294967296 < i) (hi2 : i < 4294967296) (hj : -4294967296 < j) (hj2 : j < 4294967296) (q : Rat) (K : Nat) (hd : j ≠ 0) (hq : Rat.divInt i j = q) (hs : Sz q K) :
  Calls Tryz.prog 44 #[.int .i64 i, .int .i64 j] w (RetFe w (.int .i64 0) q K) := by
 have HD := Lib.hid hd
 have HQ := Lib.hid hq
 have HS := Lib.hid hs
 clear hd hq hs
 go_enter Tryz.func44, Tryz.ntmps44
 go_wp2_with fail
 (with_reducible refine (r01_of1 _ (i) ?_ ?_).mono ?_); (omega); (omega); rintro e w1 ⟨b1, A1, n1, c1, rfl, h1, hb1⟩
 have q1 := hb1.q1
 have x1a : Blk w1 w.heap.size 24 #[.bool false, .slice none 0 0, .slice none 0 0] := (blkAt _ _ _ (by simp)).below hb1 (by simp)
 have bw1 := (brefl w).trans (q1.mono (brefl w).size)
 have lw1 := hb1.l1
 clear q1
 go_wp2_with fail
 (with_reducible refine (r01_of1 _ (j) ?_ ?_).mono ?_); (omega); (omega); rintro e w2 ⟨b2, A2, n2, c2, rfl, h2, q2⟩
 replace h1 := h1.belw q2
 replace x1a := x1a.b q2
 have bw2 := bw1.trans (q2.mono bw1.size)
 have lw2 := q2.size
 clear q2 bw1
 go_wp2_with fail
 (with_reducible refine (g_from _ b1 A1 n1 c1 (i) (1) ?_ b2 A2 n2 c2 (j) (1) ?_ q K ?_ ?_ ?_ ?_).mono ?_); (exact h1.iz); (exact h2.iz); (exact HD.out); (exact HQ.out); (exact HS.out); (decide); rintro e w3 ⟨b3, A3, n3, c3, A'3, n'3, c'3, rfl, h3, q3⟩
 replace h1 := h1.belw q3
 replace h2 := h2.belw q3
 replace x1a := x1a.b q3
 have bw3 := bw2.trans (q3.mono bw2.size)
 have lw3 := q3.size
 clear q3 bw2
 have cx1a := x1a.c3
 have fx1a := x1a.f3
 have lx1a := lts0 x1a.lt
 go_wp2_with fail
 refine bodyPost_ret (v := .tuple #[.agg #[.bool b3, .slice A3 n3 c3, .slice A'3 n'3 c'3], .int .i64 0]) (by simp [results, Tryz.results44, go_sem, *] <;> trivial) rfl ?_
 exact ⟨b3, A3, n3, c3, A'3, n'3, c'3, rfl, h3.keep ((((Kp.refl w3).sb w.heap.size 0 x1a.box (by decide) (.bool b3)).sb w.heap.size 1 (x1a.box.set ⟨w.heap.size, 0, none⟩ (.bool b3)) (by decide) (.slice A3 n3 c3)).sb w.heap.size 2 ((x1a.box.set ⟨w.heap.size, 0, none⟩ (.bool b3)).set ⟨w.heap.size, 1, none⟩ (.slice A3 n3 c3)) (by decide) (.slice A'3 n'3 c'3)), (((bw3.sc w.heap.size 0 (by omega) (.bool b3)).sc w.heap.size 1 (by omega) (.slice A3 n3 c3)).sc w.heap.size 2 (by omega) (.slice A'3 n'3 c'3))⟩
end Go.Proofs.YtianjkiakkclgaaGreatDoor

/- Walks: the reference: whether two accepted turns are the same. -/
namespace Go.Proofs.YtianjkiakkclgaaGreatDoor
open Go Go.RowKit Bn
attribute [local go_sem ↓] Go.wp_at_zero Go.wp_at_succ
theorem g_cmp_e (w : World) (b A n c D m e q k) (h : QZ w b A n c D m e q k) (b' A' n' c' D' m' e' q' k') (h' : QZ w b' A' n' c' D' m' e' q' k') (s : Int) (hs : (q - q').num.sign = s) (h0 : 0 < k) (hk : k ≤ 10000000) (h0' : 0 < k') (hk' : k' ≤ 10000000) : Calls Tryz.prog 32 #[.agg #[.bool b, .slice A n c, .slice D m e], .agg #[.bool b', .slice A' n' c', .slice D' m' e']] w (RetV w (.int .i64 s)) := by
  subst hs; exact g_cmp w b A n c D m e q k h b' A' n' c' D' m' e' q' k' h' h0 hk h0' hk'
theorem sub_sign {q q' : Rat} : (q - q').num.sign = 0 ↔ q = q' := by
  rw [Int.sign_eq_zero_iff_zero, Rat.num_eq_zero]
  constructor
  · intro h; have h2 := Rat.sub_add_cancel (a := q) (b := q'); rw [h, Rat.zero_add] at h2; exact h2.symm
  · intro h; rw [h]; exact Rat.sub_self
theorem g_same_tt0 (w : World) (b : Bool) (A : Option Addr) (n c : Nat) (D : Option Addr) (m e : Nat) (t : TN) (k : Nat) (h : TK w b A n c D m e true t k) (b' : Bool) (A' : Option Addr) (n' c' : Nat) (D' : Option Addr) (m' e' : Nat) (t' : TN) (k' : Nat) (h' : TK w b' A' n' c' D' m' e' true t' k') (h0 : 0 < k) (hk : k ≤ 1000000) (h0' : 0 < k') (hk' : k' ≤ 1000000) (hs : (t.t - t'.t).num.sign = 0) :
  Calls Tryz.prog 14 #[.agg #[.bool b, .slice A n c, .slice D m e, .bool true], .agg #[.bool b', .slice A' n' c', .slice D' m' e', .bool true]] w (RetV w (.bool true)) := by
 have HS := Lib.hid hs
 clear hs
 go_enter Tryz.func14, Tryz.ntmps14
 go_wp2_with fail
 (with_reducible refine (g_cmp_e _ b A n c D m e ((t).t) (k) ?_ b' A' n' c' D' m' e' ((t').t) (k') ?_ (0) ?_ ?_ ?_ ?_ ?_).mono ?_); (exact (h.belw (((Below.refl _ _).alloc (Nat.le_refl _) _).alloc (by simp) _)).qz); (exact (h'.belw (((Below.refl _ _).alloc (Nat.le_refl _) _).alloc (by simp) _)).qz); (exact HS.out); (omega); (omega); (omega); (omega); rintro e w1 ⟨rfl, hb1⟩
 have q1 := hb1.q2
 replace h := h.belw q1
 replace h' := h'.belw q1
 have x1a : Blk w1 w.heap.size 28 #[.bool b, .slice A n c, .slice D m e, .bool true] := ((blkAt _ _ _ (by simp)).alloc _).below hb1 (by simp <;> omega)
 have x1b := (blkAt _ _ _ (g := w.heap.size + 1) (by simp)).below hb1 (by simp)
 have bw1 := (brefl w).trans (q1.mono (brefl w).size)
 have lw1 := hb1.l2
 clear q1
 go_wp2_with fail
 go_ret
 exact retB rfl bw1
theorem g_same_tts (w : World) (b : Bool) (A : Option Addr) (n c : Nat) (D : Option Addr) (m e : Nat) (t : TN) (k : Nat) (h : TK w b A n c D m e true t k) (b' : Bool) (A' : Option Addr) (n' c' : Nat) (D' : Option Addr) (m' e' : Nat) (t' : TN) (k' : Nat) (h' : TK w b' A' n' c' D' m' e' true t' k') (h0 : 0 < k) (hk : k ≤ 1000000) (h0' : 0 < k') (hk' : k' ≤ 1000000) (s : Int) (hs : (t.t - t'.t).num.sign = s) (hne : s ≠ 0) :
  Calls Tryz.prog 14 #[.agg #[.bool b, .slice A n c, .slice D m e, .bool true], .agg #[.bool b', .slice A' n' c', .slice D' m' e', .bool true]] w (RetV w (.bool false)) := by
 have HS := Lib.hid hs
 have e0 : ((s : Int) == 0) = false := by simp; exact hne
 clear hs hne
 go_enter Tryz.func14, Tryz.ntmps14
 go_wp2_with fail
 (with_reducible refine (g_cmp_e _ b A n c D m e ((t).t) (k) ?_ b' A' n' c' D' m' e' ((t').t) (k') ?_ (s) ?_ ?_ ?_ ?_ ?_).mono ?_); (exact (h.belw (((Below.refl _ _).alloc (Nat.le_refl _) _).alloc (by simp) _)).qz); (exact (h'.belw (((Below.refl _ _).alloc (Nat.le_refl _) _).alloc (by simp) _)).qz); (exact HS.out); (omega); (omega); (omega); (omega); rintro e w1 ⟨rfl, hb1⟩
 have q1 := hb1.q2
 replace h := h.belw q1
 replace h' := h'.belw q1
 have x1a : Blk w1 w.heap.size 28 #[.bool b, .slice A n c, .slice D m e, .bool true] := ((blkAt _ _ _ (by simp)).alloc _).below hb1 (by simp <;> omega)
 have x1b := (blkAt _ _ _ (g := w.heap.size + 1) (by simp)).below hb1 (by simp)
 have bw1 := (brefl w).trans (q1.mono (brefl w).size)
 have lw1 := hb1.l2
 clear q1
 go_wp2_with fail
 go_ret
 exact retB rfl bw1
theorem g_same_tf (w : World) (b : Bool) (A : Option Addr) (n c : Nat) (D : Option Addr) (m e : Nat) (t : TN) (k : Nat) (h : TK w b A n c D m e true t k) (b' : Bool) (A' : Option Addr) (n' c' : Nat) (D' : Option Addr) (m' e' : Nat) (t' : TN) (k' : Nat) (h' : TK w b' A' n' c' D' m' e' false t' k') (h0 : 0 < k) (hk : k ≤ 1000000) (h0' : 0 < k') (hk' : k' ≤ 1000000)  :
  Calls Tryz.prog 14 #[.agg #[.bool b, .slice A n c, .slice D m e, .bool true], .agg #[.bool b', .slice A' n' c', .slice D' m' e', .bool false]] w (RetV w (.bool false)) := by
 go_enter Tryz.func14, Tryz.ntmps14
 go_wp2_with fail
 go_ret
 exact retB rfl (((brefl w).alloc (by first | omega | (simp <;> omega)) (.cells #[.bool b, .slice A n c, .slice D m e, .bool true] 28)).alloc (by first | omega | (simp <;> omega)) (.cells #[.bool b', .slice A' n' c', .slice D' m' e', .bool false] 28))
theorem g_same_ft (w : World) (b : Bool) (A : Option Addr) (n c : Nat) (D : Option Addr) (m e : Nat) (t : TN) (k : Nat) (h : TK w b A n c D m e false t k) (b' : Bool) (A' : Option Addr) (n' c' : Nat) (D' : Option Addr) (m' e' : Nat) (t' : TN) (k' : Nat) (h' : TK w b' A' n' c' D' m' e' true t' k') (h0 : 0 < k) (hk : k ≤ 1000000) (h0' : 0 < k') (hk' : k' ≤ 1000000)  :
  Calls Tryz.prog 14 #[.agg #[.bool b, .slice A n c, .slice D m e, .bool false], .agg #[.bool b', .slice A' n' c', .slice D' m' e', .bool true]] w (RetV w (.bool false)) := by
 go_enter Tryz.func14, Tryz.ntmps14
 go_wp2_with fail
 go_ret
 exact retB rfl (((brefl w).alloc (by first | omega | (simp <;> omega)) (.cells #[.bool b, .slice A n c, .slice D m e, .bool false] 28)).alloc (by first | omega | (simp <;> omega)) (.cells #[.bool b', .slice A' n' c', .slice D' m' e', .bool true] 28))
theorem g_same_ff0 (w : World) (b : Bool) (A : Option Addr) (n c : Nat) (D : Option Addr) (m e : Nat) (t : TN) (k : Nat) (h : TK w b A n c D m e false t k) (b' : Bool) (A' : Option Addr) (n' c' : Nat) (D' : Option Addr) (m' e' : Nat) (t' : TN) (k' : Nat) (h' : TK w b' A' n' c' D' m' e' false t' k') (h0 : 0 < k) (hk : k ≤ 1000000) (h0' : 0 < k') (hk' : k' ≤ 1000000) (hs : (t.t - t'.t).num.sign = 0) :
  Calls Tryz.prog 14 #[.agg #[.bool b, .slice A n c, .slice D m e, .bool false], .agg #[.bool b', .slice A' n' c', .slice D' m' e', .bool false]] w (RetV w (.bool true)) := by
 have HS := Lib.hid hs
 clear hs
 go_enter Tryz.func14, Tryz.ntmps14
 go_wp2_with fail
 (with_reducible refine (g_cmp_e _ b A n c D m e ((t).t) (k) ?_ b' A' n' c' D' m' e' ((t').t) (k') ?_ (0) ?_ ?_ ?_ ?_ ?_).mono ?_); (exact (h.belw (((Below.refl _ _).alloc (Nat.le_refl _) _).alloc (by simp) _)).qz); (exact (h'.belw (((Below.refl _ _).alloc (Nat.le_refl _) _).alloc (by simp) _)).qz); (exact HS.out); (omega); (omega); (omega); (omega); rintro e w1 ⟨rfl, hb1⟩
 have q1 := hb1.q2
 replace h := h.belw q1
 replace h' := h'.belw q1
 have x1a : Blk w1 w.heap.size 28 #[.bool b, .slice A n c, .slice D m e, .bool false] := ((blkAt _ _ _ (by simp)).alloc _).below hb1 (by simp <;> omega)
 have x1b := (blkAt _ _ _ (g := w.heap.size + 1) (by simp)).below hb1 (by simp)
 have bw1 := (brefl w).trans (q1.mono (brefl w).size)
 have lw1 := hb1.l2
 clear q1
 go_wp2_with fail
 go_ret
 exact retB rfl bw1
theorem g_same_ffs (w : World) (b : Bool) (A : Option Addr) (n c : Nat) (D : Option Addr) (m e : Nat) (t : TN) (k : Nat) (h : TK w b A n c D m e false t k) (b' : Bool) (A' : Option Addr) (n' c' : Nat) (D' : Option Addr) (m' e' : Nat) (t' : TN) (k' : Nat) (h' : TK w b' A' n' c' D' m' e' false t' k') (h0 : 0 < k) (hk : k ≤ 1000000) (h0' : 0 < k') (hk' : k' ≤ 1000000) (s : Int) (hs : (t.t - t'.t).num.sign = s) (hne : s ≠ 0) :
  Calls Tryz.prog 14 #[.agg #[.bool b, .slice A n c, .slice D m e, .bool false], .agg #[.bool b', .slice A' n' c', .slice D' m' e', .bool false]] w (RetV w (.bool false)) := by
 have HS := Lib.hid hs
 have e0 : ((s : Int) == 0) = false := by simp; exact hne
 clear hs hne
 go_enter Tryz.func14, Tryz.ntmps14
 go_wp2_with fail
 (with_reducible refine (g_cmp_e _ b A n c D m e ((t).t) (k) ?_ b' A' n' c' D' m' e' ((t').t) (k') ?_ (s) ?_ ?_ ?_ ?_ ?_).mono ?_); (exact (h.belw (((Below.refl _ _).alloc (Nat.le_refl _) _).alloc (by simp) _)).qz); (exact (h'.belw (((Below.refl _ _).alloc (Nat.le_refl _) _).alloc (by simp) _)).qz); (exact HS.out); (omega); (omega); (omega); (omega); rintro e w1 ⟨rfl, hb1⟩
 have q1 := hb1.q2
 replace h := h.belw q1
 replace h' := h'.belw q1
 have x1a : Blk w1 w.heap.size 28 #[.bool b, .slice A n c, .slice D m e, .bool false] := ((blkAt _ _ _ (by simp)).alloc _).below hb1 (by simp <;> omega)
 have x1b := (blkAt _ _ _ (g := w.heap.size + 1) (by simp)).below hb1 (by simp)
 have bw1 := (brefl w).trans (q1.mono (brefl w).size)
 have lw1 := hb1.l2
 clear q1
 go_wp2_with fail
 go_ret
 exact retB rfl bw1
theorem g_same (w : World) (b : Bool) (A : Option Addr) (n c : Nat) (D : Option Addr) (m e : Nat) (x : Bool) (t : TN) (k : Nat) (h : TK w b A n c D m e x t k) (b' : Bool) (A' : Option Addr) (n' c' : Nat) (D' : Option Addr) (m' e' : Nat) (x' : Bool) (t' : TN) (k' : Nat) (h' : TK w b' A' n' c' D' m' e' x' t' k') (h0 : 0 < k) (hk : k ≤ 1000000) (h0' : 0 < k') (hk' : k' ≤ 1000000) (v : Bool) (hv : v = true ↔ t = t') : Calls Tryz.prog 14 #[.agg #[.bool b, .slice A n c, .slice D m e, .bool x], .agg #[.bool b', .slice A' n' c', .slice D' m' e', .bool x']] w (RetV w (.bool v)) := by
  have h1 := h.2.1
  have h2 := h'.2.1
  by_cases he : t = t'
  · have hs : (t.t - t'.t).num.sign = 0 := sub_sign.2 (by rw [he])
    obtain rfl : v = true := hv.2 he
    have hx : x = x' := by rw [h1, h2, he]
    subst hx
    cases x
    · exact g_same_ff0 w b A n c D m e t k h b' A' n' c' D' m' e' t' k' h' h0 hk h0' hk' hs
    · exact g_same_tt0 w b A n c D m e t k h b' A' n' c' D' m' e' t' k' h' h0 hk h0' hk' hs
  · obtain rfl : v = false := by cases v; rfl; exact absurd (hv.1 rfl) he
    by_cases hx : x = x'
    · subst hx
      have hne : (t.t - t'.t).num.sign ≠ 0 := fun z => he (by
        obtain ⟨a, ah⟩ := t
        obtain ⟨a', ah'⟩ := t'
        have := sub_sign.1 z
        simp only at this h1 h2
        rw [this, ← h1, ← h2])
      cases x
      · exact g_same_ffs w b A n c D m e t k h b' A' n' c' D' m' e' t' k' h' h0 hk h0' hk' _ rfl hne
      · exact g_same_tts w b A n c D m e t k h b' A' n' c' D' m' e' t' k' h' h0 hk h0' hk' _ rfl hne
    · cases x <;> cases x'
      · exact absurd rfl hx
      · exact g_same_ft w b A n c D m e t k h b' A' n' c' D' m' e' t' k' h' h0 hk h0' hk'
      · exact g_same_tf w b A n c D m e t k h b' A' n' c' D' m' e' t' k' h' h0 hk h0' hk'
      · exact absurd rfl hx
theorem g_same_e (w : World) (b : Bool) (A : Option Addr) (n c : Nat) (D : Option Addr) (m e : Nat) (x : Bool) (t : TN) (k : Nat) (h : TK w b A n c D m e x t k) (b' : Bool) (A' : Option Addr) (n' c' : Nat) (D' : Option Addr) (m' e' : Nat) (x' : Bool) (t' : TN) (k' : Nat) (h' : TK w b' A' n' c' D' m' e' x' t' k') (v : Bool) (hv : v = true ↔ t = t') (h0 : 0 < k) (hk : k ≤ 1000000) (h0' : 0 < k') (hk' : k' ≤ 1000000) : Calls Tryz.prog 14 #[.agg #[.bool b, .slice A n c, .slice D m e, .bool x], .agg #[.bool b', .slice A' n' c', .slice D' m' e', .bool x']] w (RetV w (.bool v)) := g_same w b A n c D m e x t k h b' A' n' c' D' m' e' x' t' k' h' h0 hk h0' hk' v hv
theorem TK.zero (w : World) : TK w false none 0 0 none 0 0 false tzero 1 := ⟨⟨⟨false, [], []⟩, ⟨rfl, Wd.nil_ w, Wd.nil_ w, Nat.zero_le _, Nat.zero_le _⟩, by rfl, by rfl⟩, rfl, tzero_ok⟩
end Go.Proofs.YtianjkiakkclgaaGreatDoor

/- Walks: the reference: products and quotients of fractions. -/
namespace Go.Proofs.YtianjkiakkclgaaGreatDoor
open Go Go.RowKit Bn
attribute [local go_sem ↓] Go.wp_at_zero Go.wp_at_succ
theorem g_of (w : World) (i : Int) (hi : -4294967296 < i) (hi2 : i < 4294967296) :
  Calls Tryz.prog 35 #[.int .i64 i] w (RetF w (i : Rat) 1) := by
 go_enter Tryz.func35, Tryz.ntmps35
 go_wp2_with fail
 (with_reducible refine (r01_of1 _ (i) ?_ ?_).mono ?_); (omega); (omega); rintro e w1 ⟨b1, A1, n1, c1, rfl, h1, hb1⟩
 have q1 := hb1.q1
 have x1a : Blk w1 w.heap.size 24 #[.bool false, .slice none 0 0, .slice none 0 0] := (blkAt _ _ _ (by simp)).below hb1 (by simp)
 have bw1 := (brefl w).trans (q1.mono (brefl w).size)
 have lw1 := hb1.l1
 clear q1
 go_wp2_with fail
 (with_reducible refine (g_one _).mono ?_); rintro e w2 ⟨b2, A2, n2, c2, rfl, h2, q2⟩
 replace h1 := h1.belw q2
 replace x1a := x1a.b q2
 have bw2 := bw1.trans (q2.mono bw1.size)
 have lw2 := q2.size
 clear q2 bw1
 go_wp2_with fail
 (with_reducible refine (g_form _ b1 A1 n1 c1 (i) (1) ?_ b2 A2 n2 c2 (1) (1) ?_ ((i : Rat)) (1) ?_ ?_ ?_ ?_).mono ?_); (exact h1.iz); (exact h2.iz); (decide); (exact int_q i); (exact Sz_int (by omega) (by decide)); (decide); rintro e w3 ⟨b3, A3, n3, c3, A'3, n'3, c'3, rfl, h3, q3⟩
 replace h1 := h1.belw q3
 replace h2 := h2.belw q3
 replace x1a := x1a.b q3
 have bw3 := bw2.trans (q3.mono bw2.size)
 have lw3 := q3.size
 clear q3 bw2
 have cx1a := x1a.c3
 have fx1a := x1a.f3
 have lx1a := lts0 x1a.lt
 go_wp2_with fail
 refine bodyPost_ret (v := .agg #[.bool b3, .slice A3 n3 c3, .slice A'3 n'3 c'3]) (by simp [results, Tryz.results35, go_sem, *] <;> trivial) rfl ?_
 exact ⟨b3, A3, n3, c3, A'3, n'3, c'3, rfl, h3.keep ((((Kp.refl w3).sb w.heap.size 0 x1a.box (by decide) (.bool b3)).sb w.heap.size 1 (x1a.box.set ⟨w.heap.size, 0, none⟩ (.bool b3)) (by decide) (.slice A3 n3 c3)).sb w.heap.size 2 ((x1a.box.set ⟨w.heap.size, 0, none⟩ (.bool b3)).set ⟨w.heap.size, 1, none⟩ (.slice A3 n3 c3)) (by decide) (.slice A'3 n'3 c'3)), (((bw3.sc w.heap.size 0 (by omega) (.bool b3)).sc w.heap.size 1 (by omega) (.slice A3 n3 c3)).sc w.heap.size 2 (by omega) (.slice A'3 n'3 c'3))⟩
theorem g_mul (w : World) (b A n c D m e q k) (h : QZ w b A n c D m e q k) (b' A' n' c' D' m' e' q' k') (h' : QZ w b' A' n' c' D' m' e' q' k') (h0 : 0 < k) (hk : k ≤ 40000000) (h0' : 0 < k') (hk' : k' ≤ 40000000) :
    Calls Tryz.prog 63 #[.agg #[.bool b, .slice A n c, .slice D m e], .agg #[.bool b', .slice A' n' c', .slice D' m' e']] w (RetF w (q * q') (k + k')) := by
  have HS := Lib.hid (h.sz h0)
  have HS' := Lib.hid (h'.sz h0')
  go_enter Tryz.func63, Tryz.ntmps63
  go_wp2_with fail
  (with_reducible refine (g_parts _ b A n c D m e (q) (k) ?_ ?_ ?_).mono ?_); (exact (h.belw ((((Below.refl _ _).alloc (Nat.le_refl _) _).alloc (by simp) _).alloc (by simp <;> omega) _))); (omega); (omega); rintro e w1 ⟨b1, A1, n1, c1, b'1, A'1, n'1, c'1, rfl, h1, h'1, hb1⟩
  have q1 := hb1.q3
  replace h := h.belw q1
  replace h' := h'.belw q1
  have x1a : Blk w1 w.heap.size 24 #[.bool b, .slice A n c, .slice D m e] := (((blkAt _ _ _ (by simp)).alloc _).alloc _).below hb1 (by simp <;> omega)
  have x1b := ((blkAt _ _ _ (g := w.heap.size + 1) (by simp)).alloc _).below hb1 (by simp <;> omega)
  have x1c := (blkAt _ _ _ (g := w.heap.size + 1 + 1) (by simp)).below hb1 (by simp)
  have bw1 := (brefl w).trans (q1.mono (brefl w).size)
  have lw1 := hb1.l3
  clear q1
  have cx1b := x1b.c3
  obtain ⟨lx1ba, lx1bb, lx1bc, lx1bd⟩ := lts1 x1b.lt
  go_wp2_with fail
  (with_reducible refine (g_parts _ b' A' n' c' D' m' e' (q') (k') ?_ ?_ ?_).mono ?_); (exact (h'.belw (((Below.refl _ _).alloc (Nat.le_refl _) _).alloc (by simp) _))); (omega); (omega); rintro e w2 ⟨b2, A2, n2, c2, b'2, A'2, n'2, c'2, rfl, h2, h'2, hb2⟩
  clear cx1b lx1ba lx1bb lx1bc lx1bd
  have q2 := hb2.q2
  replace h := h.belw q2
  replace h' := h'.belw q2
  replace h1 := h1.belw q2
  replace h'1 := h'1.belw q2
  replace x1a := x1a.b q2
  replace x1b := x1b.b q2
  replace x1c := x1c.b q2
  have x2a : Blk w2 w1.heap.size 77 #[.bool b1, .slice A1 n1 c1] := ((blkAt _ _ _ (by simp)).alloc _).below hb2 (by simp <;> omega)
  have x2b := (blkAt _ _ _ (g := w1.heap.size + 1) (by simp)).below hb2 (by simp)
  have bw2 := bw1.trans (q2.mono bw1.size)
  have lw2 := hb2.l2
  clear q2 bw1
  go_wp2_with fail
  have p3 := (((Kp.refl w2).alloc (.cells #[.bool b2, .slice A2 n2 c2] 77)).alloc (.cells #[.bool b'2, .slice A'2 n'2 c'2] 77))
  have bw3 := ((bw2.alloc (by first | omega | (simp <;> omega)) (.cells #[.bool b2, .slice A2 n2 c2] 77)).alloc (by first | omega | (simp <;> omega)) (.cells #[.bool b'2, .slice A'2 n'2 c'2] 77))
  have x3a : Blk ((w2.alloc (.cells #[.bool b2, .slice A2 n2 c2] 77)).alloc (.cells #[.bool b'2, .slice A'2 n'2 c'2] 77)) w2.heap.size 77 #[.bool b2, .slice A2 n2 c2] := ((blkAt _ _ _ (by simp)).alloc (.cells #[.bool b'2, .slice A'2 n'2 c'2] 77))
  have x3b : Blk ((w2.alloc (.cells #[.bool b2, .slice A2 n2 c2] 77)).alloc (.cells #[.bool b'2, .slice A'2 n'2 c'2] 77)) (w2.heap.size + 1) 77 #[.bool b'2, .slice A'2 n'2 c'2] := (blkAt _ _ _ (by simp))
  replace x1a := ((x1a.alloc (.cells #[.bool b2, .slice A2 n2 c2] 77)).alloc (.cells #[.bool b'2, .slice A'2 n'2 c'2] 77))
  replace x1b := ((x1b.alloc (.cells #[.bool b2, .slice A2 n2 c2] 77)).alloc (.cells #[.bool b'2, .slice A'2 n'2 c'2] 77))
  replace x1c := ((x1c.alloc (.cells #[.bool b2, .slice A2 n2 c2] 77)).alloc (.cells #[.bool b'2, .slice A'2 n'2 c'2] 77))
  replace x2a := ((x2a.alloc (.cells #[.bool b2, .slice A2 n2 c2] 77)).alloc (.cells #[.bool b'2, .slice A'2 n'2 c'2] 77))
  replace x2b := ((x2b.alloc (.cells #[.bool b2, .slice A2 n2 c2] 77)).alloc (.cells #[.bool b'2, .slice A'2 n'2 c'2] 77))
  have lw3 : w2.heap.size + 2 ≤ ((w2.alloc (.cells #[.bool b2, .slice A2 n2 c2] 77)).alloc (.cells #[.bool b'2, .slice A'2 n'2 c'2] 77)).heap.size := by simp
  generalize hE3 : ((w2.alloc (.cells #[.bool b2, .slice A2 n2 c2] 77)).alloc (.cells #[.bool b'2, .slice A'2 n'2 c'2] 77)) = w3 at p3 bw3 lw3 x3a x3b x1a x1b x1c x2a x2b ⊢
  clear hE3
  replace h := h.keep p3
  replace h' := h'.keep p3
  replace h1 := h1.keep p3
  replace h'1 := h'1.keep p3
  replace h2 := h2.keep p3
  replace h'2 := h'2.keep p3
  clear bw2
  have lx1a := lts0 x1a.lt
  obtain ⟨lx1ba, lx1bb, lx1bc, lx1bd⟩ := lts1 x1b.lt
  have cx1ca : w3.cell? ⟨w.heap.size + 1 + 1, 0, none⟩ = some (.bool false) := x1c.cell 0
  have fx1ca : w3.frozen? ⟨w.heap.size + 1 + 1, 0, none⟩ = false := x1c.frozen 0
  have cx1cb : w3.cell? ⟨w.heap.size + 1 + 1, 1, none⟩ = some (.slice none 0 0) := x1c.cell 1
  have fx1cb : w3.frozen? ⟨w.heap.size + 1 + 1, 1, none⟩ = false := x1c.frozen 1
  have cx1cc : w3.cell? ⟨w.heap.size + 1 + 1, 2, none⟩ = some (.slice none 0 0) := x1c.cell 2
  have fx1cc : w3.frozen? ⟨w.heap.size + 1 + 1, 2, none⟩ = false := x1c.frozen 2
  have lx1c := lts2 x1c.lt
  have cx2a := x2a.c2
  have lx2a := lts0 x2a.lt
  have cx2b := x2b.c2
  have lx2b := lts1 x2b.lt
  have cx3a := x3a.c2
  have lx3a := lts0 x3a.lt
  have cx3b := x3b.c2
  have lx3b := lts1 x3b.lt
  have nfx1_0_0 : ¬ w.heap.size = w.heap.size + 1 + 1 := by omega
  have nex1_0_0 : ¬ w.heap.size = w.heap.size + 2 := by omega
  have nfx1_1_0 : ¬ w.heap.size + 1 = w.heap.size + 1 + 1 := by omega
  have nex1_1_0 : ¬ w.heap.size = w.heap.size + 1 := by omega
  have nfx2_0_0 : ¬ w1.heap.size = w.heap.size + 1 + 1 := by omega
  have nex2_0_0 : ¬ w1.heap.size = w.heap.size + 2 := by omega
  have nfx2_1_0 : ¬ w1.heap.size + 1 = w.heap.size + 1 + 1 := by omega
  have nex2_1_0 : ¬ w1.heap.size = w.heap.size + 1 := by omega
  have nfx3_0_0 : ¬ w2.heap.size = w.heap.size + 1 + 1 := by omega
  have nex3_0_0 : ¬ w2.heap.size = w.heap.size + 2 := by omega
  have nfx3_1_0 : ¬ w2.heap.size + 1 = w.heap.size + 1 + 1 := by omega
  have nex3_1_0 : ¬ w2.heap.size = w.heap.size + 1 := by omega
  go_region_held3 (fun w' => SeesX w3.heap.size (w.heap.size + 1 + 1) w3 w') (first | with_reducible exact SeesX.of (Nat.le_refl _) (by assumption) | with_reducible exact SeesX.of (Nat.le_refl _) (brefl _).drew | with_reducible exact (SeesX.set (SeesX.set (SeesX.set (SeesX.of (Nat.le_refl _) (by assumption))))) | with_reducible exact (SeesX.set (SeesX.set (SeesX.of (Nat.le_refl _) (by assumption)))) | with_reducible exact (SeesX.set (SeesX.of (Nat.le_refl _) (by assumption))) | exact SeesX.of (Nat.le_refl _) (below_drewN (brefl _) 1) | exact SeesX.of (Nat.le_refl _) (below_drewN (by assumption) _))
    (first
      | (go_at_call 70; (with_reducible refine (r01_mul _ b1 A1 n1 c1 ((q).num) ((k)) ?_ b2 A2 n2 c2 ((q').num) ((k')) ?_ ?_).mono ?_); (exact h1.iz); (exact h2.iz); (omega); rintro e w4 ⟨b4, A4, n4, c4, rfl, h4, hb4⟩; replace hb4 := bnext (below_drewN (brefl _) 1) hb4; have q4 : Below w3.heap.size w3 w4 := bnext (brefl w3) hb4; replace h := h.belw hb4; replace h' := h'.belw hb4; replace h1 := h1.belw hb4; replace h'1 := h'1.belw hb4; replace h2 := h2.belw hb4; replace h'2 := h'2.belw hb4)
      | (go_at_call 70; (with_reducible refine (r01_mul _ b'1 A'1 n'1 c'1 (((q).den : Int)) ((k)) ?_ b'2 A'2 n'2 c'2 (((q').den : Int)) ((k')) ?_ ?_).mono ?_); (exact h'1.iz); (exact h'2.iz); (omega); rintro e w5 ⟨b5, A5, n5, c5, rfl, h5, hb5⟩; have q5 : Below w3.heap.size w3 w5 := bnext q4 hb5; replace h := h.belw hb5; replace h' := h'.belw hb5; replace h1 := h1.belw hb5; replace h'1 := h'1.belw hb5; replace h2 := h2.belw hb5; replace h'2 := h'2.belw hb5; replace h4 := h4.belw hb5)
      | (go_at_call 64; (with_reducible refine (g_form _ b4 A4 n4 c4 (((q).num) * ((q').num)) (((k)) + ((k'))) ?_ b5 A5 n5 c5 ((((q).den : Int)) * (((q').den : Int))) (((k)) + ((k'))) ?_ (q * q') (k + k') ?_ ?_ ?_ ?_).mono ?_); (exact h4.iz); (exact h5.iz); (exact Int.mul_ne_zero (den_ne _) (den_ne _)); (exact (mul_q _ _).symm); (exact Sz_mul HS.out HS'.out); (omega); rintro e w6 ⟨b6, A6, n6, c6, A'6, n'6, c'6, rfl, h6, hb6⟩; have q6 : Below w3.heap.size w3 w6 := bnext q5 hb6; replace h := h.belw hb6; replace h' := h'.belw hb6; replace h1 := h1.belw hb6; replace h'1 := h'1.belw hb6; replace h2 := h2.belw hb6; replace h'2 := h'2.belw hb6; replace h4 := h4.belw hb6; replace h5 := h5.belw hb6; have x1c := x1c.b q6; obtain ⟨cx1ca, cx1cb, cx1cc⟩ := x1c.c3; obtain ⟨fx1ca, fx1cb, fx1cc⟩ := x1c.f3))
  have bw6 := bw3.trans (q6.mono bw3.size)
  clear lx1a lx1ba lx1bb lx1bc lx1bd cx1ca fx1ca cx1cb fx1cb cx1cc fx1cc lx1c cx2a lx2a cx2b lx2b cx3a lx3a cx3b lx3b
  replace x1a := x1a.b q6
  replace x1b := x1b.b q6
  replace x2a := x2a.b q6
  replace x2b := x2b.b q6
  replace x3a := x3a.b q6
  replace x3b := x3b.b q6
  have lw6 := q6.size
  obtain ⟨cx1ca, cx1cb, cx1cc⟩ := x1c.c3
  obtain ⟨fx1ca, fx1cb, fx1cc⟩ := x1c.f3
  go_wp2_with fail
  refine bodyPost_ret (v := .agg #[.bool b6, .slice A6 n6 c6, .slice A'6 n'6 c'6]) (by simp [results, Tryz.results63, go_sem, *] <;> trivial) rfl ?_
  exact ⟨b6, A6, n6, c6, A'6, n'6, c'6, rfl, h6.keep ((((Kp.refl w6).sb (w.heap.size + 1 + 1) 0 x1c.box (by decide) (.bool b6)).sb (w.heap.size + 1 + 1) 1 (x1c.box.set ⟨w.heap.size + 1 + 1, 0, none⟩ (.bool b6)) (by decide) (.slice A6 n6 c6)).sb (w.heap.size + 1 + 1) 2 ((x1c.box.set ⟨w.heap.size + 1 + 1, 0, none⟩ (.bool b6)).set ⟨w.heap.size + 1 + 1, 1, none⟩ (.slice A6 n6 c6)) (by decide) (.slice A'6 n'6 c'6)), (((bw6.sc (w.heap.size + 1 + 1) 0 (by omega) (.bool b6)).sc (w.heap.size + 1 + 1) 1 (by omega) (.slice A6 n6 c6)).sc (w.heap.size + 1 + 1) 2 (by omega) (.slice A'6 n'6 c'6))⟩
theorem g_div (w : World) (b A n c D m e q k) (h : QZ w b A n c D m e q k) (b' A' n' c' D' m' e' q' k') (h' : QZ w b' A' n' c' D' m' e' q' k') (h0 : 0 < k) (hk : k ≤ 40000000) (h0' : 0 < k') (hk' : k' ≤ 40000000) (hne : q' ≠ 0) :
    Calls Tryz.prog 67 #[.agg #[.bool b, .slice A n c, .slice D m e], .agg #[.bool b', .slice A' n' c', .slice D' m' e']] w (RetFe w (.int .i64 0) (q / q') (k + k')) := by
  have HS := Lib.hid (h.sz h0)
  have HS' := Lib.hid (h'.sz h0')
  have HN := Lib.hid hne
  clear hne
  go_enter Tryz.func67, Tryz.ntmps67
  go_wp2_with fail
  (with_reducible refine (g_parts _ b A n c D m e (q) (k) ?_ ?_ ?_).mono ?_); (exact (h.belw ((((Below.refl _ _).alloc (Nat.le_refl _) _).alloc (by simp) _).alloc (by simp <;> omega) _))); (omega); (omega); rintro e w1 ⟨b1, A1, n1, c1, b'1, A'1, n'1, c'1, rfl, h1, h'1, hb1⟩
  have q1 := hb1.q3
  replace h := h.belw q1
  replace h' := h'.belw q1
  have x1a : Blk w1 w.heap.size 24 #[.bool b, .slice A n c, .slice D m e] := (((blkAt _ _ _ (by simp)).alloc _).alloc _).below hb1 (by simp <;> omega)
  have x1b := ((blkAt _ _ _ (g := w.heap.size + 1) (by simp)).alloc _).below hb1 (by simp <;> omega)
  have x1c := (blkAt _ _ _ (g := w.heap.size + 1 + 1) (by simp)).below hb1 (by simp)
  have bw1 := (brefl w).trans (q1.mono (brefl w).size)
  have lw1 := hb1.l3
  clear q1
  have cx1b := x1b.c3
  obtain ⟨lx1ba, lx1bb, lx1bc, lx1bd⟩ := lts1 x1b.lt
  go_wp2_with fail
  (with_reducible refine (g_parts _ b' A' n' c' D' m' e' (q') (k') ?_ ?_ ?_).mono ?_); (exact (h'.belw (((Below.refl _ _).alloc (Nat.le_refl _) _).alloc (by simp) _))); (omega); (omega); rintro e w2 ⟨b2, A2, n2, c2, b'2, A'2, n'2, c'2, rfl, h2, h'2, hb2⟩
  clear cx1b lx1ba lx1bb lx1bc lx1bd
  have q2 := hb2.q2
  replace h := h.belw q2
  replace h' := h'.belw q2
  replace h1 := h1.belw q2
  replace h'1 := h'1.belw q2
  replace x1a := x1a.b q2
  replace x1b := x1b.b q2
  replace x1c := x1c.b q2
  have x2a : Blk w2 w1.heap.size 77 #[.bool b1, .slice A1 n1 c1] := ((blkAt _ _ _ (by simp)).alloc _).below hb2 (by simp <;> omega)
  have x2b := (blkAt _ _ _ (g := w1.heap.size + 1) (by simp)).below hb2 (by simp)
  have bw2 := bw1.trans (q2.mono bw1.size)
  have lw2 := hb2.l2
  clear q2 bw1
  go_wp2_with fail
  have p3 := (((Kp.refl w2).alloc (.cells #[.bool b2, .slice A2 n2 c2] 77)).alloc (.cells #[.bool b'2, .slice A'2 n'2 c'2] 77))
  have bw3 := ((bw2.alloc (by first | omega | (simp <;> omega)) (.cells #[.bool b2, .slice A2 n2 c2] 77)).alloc (by first | omega | (simp <;> omega)) (.cells #[.bool b'2, .slice A'2 n'2 c'2] 77))
  have x3a : Blk ((w2.alloc (.cells #[.bool b2, .slice A2 n2 c2] 77)).alloc (.cells #[.bool b'2, .slice A'2 n'2 c'2] 77)) w2.heap.size 77 #[.bool b2, .slice A2 n2 c2] := ((blkAt _ _ _ (by simp)).alloc (.cells #[.bool b'2, .slice A'2 n'2 c'2] 77))
  have x3b : Blk ((w2.alloc (.cells #[.bool b2, .slice A2 n2 c2] 77)).alloc (.cells #[.bool b'2, .slice A'2 n'2 c'2] 77)) (w2.heap.size + 1) 77 #[.bool b'2, .slice A'2 n'2 c'2] := (blkAt _ _ _ (by simp))
  replace x1a := ((x1a.alloc (.cells #[.bool b2, .slice A2 n2 c2] 77)).alloc (.cells #[.bool b'2, .slice A'2 n'2 c'2] 77))
  replace x1b := ((x1b.alloc (.cells #[.bool b2, .slice A2 n2 c2] 77)).alloc (.cells #[.bool b'2, .slice A'2 n'2 c'2] 77))
  replace x1c := ((x1c.alloc (.cells #[.bool b2, .slice A2 n2 c2] 77)).alloc (.cells #[.bool b'2, .slice A'2 n'2 c'2] 77))
  replace x2a := ((x2a.alloc (.cells #[.bool b2, .slice A2 n2 c2] 77)).alloc (.cells #[.bool b'2, .slice A'2 n'2 c'2] 77))
  replace x2b := ((x2b.alloc (.cells #[.bool b2, .slice A2 n2 c2] 77)).alloc (.cells #[.bool b'2, .slice A'2 n'2 c'2] 77))
  have lw3 : w2.heap.size + 2 ≤ ((w2.alloc (.cells #[.bool b2, .slice A2 n2 c2] 77)).alloc (.cells #[.bool b'2, .slice A'2 n'2 c'2] 77)).heap.size := by simp
  generalize hE3 : ((w2.alloc (.cells #[.bool b2, .slice A2 n2 c2] 77)).alloc (.cells #[.bool b'2, .slice A'2 n'2 c'2] 77)) = w3 at p3 bw3 lw3 x3a x3b x1a x1b x1c x2a x2b ⊢
  clear hE3
  replace h := h.keep p3
  replace h' := h'.keep p3
  replace h1 := h1.keep p3
  replace h'1 := h'1.keep p3
  replace h2 := h2.keep p3
  replace h'2 := h'2.keep p3
  clear bw2
  have lx1a := lts0 x1a.lt
  obtain ⟨lx1ba, lx1bb, lx1bc, lx1bd⟩ := lts1 x1b.lt
  have cx1ca : w3.cell? ⟨w.heap.size + 1 + 1, 0, none⟩ = some (.bool false) := x1c.cell 0
  have fx1ca : w3.frozen? ⟨w.heap.size + 1 + 1, 0, none⟩ = false := x1c.frozen 0
  have cx1cb : w3.cell? ⟨w.heap.size + 1 + 1, 1, none⟩ = some (.slice none 0 0) := x1c.cell 1
  have fx1cb : w3.frozen? ⟨w.heap.size + 1 + 1, 1, none⟩ = false := x1c.frozen 1
  have cx1cc : w3.cell? ⟨w.heap.size + 1 + 1, 2, none⟩ = some (.slice none 0 0) := x1c.cell 2
  have fx1cc : w3.frozen? ⟨w.heap.size + 1 + 1, 2, none⟩ = false := x1c.frozen 2
  have lx1c := lts2 x1c.lt
  have cx2a := x2a.c2
  have lx2a := lts0 x2a.lt
  have cx2b := x2b.c2
  have lx2b := lts1 x2b.lt
  have cx3a := x3a.c2
  have lx3a := lts0 x3a.lt
  have cx3b := x3b.c2
  have lx3b := lts1 x3b.lt
  have nfx1_0_0 : ¬ w.heap.size = w.heap.size + 1 + 1 := by omega
  have nex1_0_0 : ¬ w.heap.size = w.heap.size + 2 := by omega
  have nfx1_1_0 : ¬ w.heap.size + 1 = w.heap.size + 1 + 1 := by omega
  have nex1_1_0 : ¬ w.heap.size = w.heap.size + 1 := by omega
  have nfx2_0_0 : ¬ w1.heap.size = w.heap.size + 1 + 1 := by omega
  have nex2_0_0 : ¬ w1.heap.size = w.heap.size + 2 := by omega
  have nfx2_1_0 : ¬ w1.heap.size + 1 = w.heap.size + 1 + 1 := by omega
  have nex2_1_0 : ¬ w1.heap.size = w.heap.size + 1 := by omega
  have nfx3_0_0 : ¬ w2.heap.size = w.heap.size + 1 + 1 := by omega
  have nex3_0_0 : ¬ w2.heap.size = w.heap.size + 2 := by omega
  have nfx3_1_0 : ¬ w2.heap.size + 1 = w.heap.size + 1 + 1 := by omega
  have nex3_1_0 : ¬ w2.heap.size = w.heap.size + 1 := by omega
  go_region_held3 (fun w' => SeesX w3.heap.size (w.heap.size + 1 + 1) w3 w') (first | with_reducible exact SeesX.of (Nat.le_refl _) (by assumption) | with_reducible exact SeesX.of (Nat.le_refl _) (brefl _).drew | with_reducible exact (SeesX.set (SeesX.set (SeesX.set (SeesX.of (Nat.le_refl _) (by assumption))))) | with_reducible exact (SeesX.set (SeesX.set (SeesX.of (Nat.le_refl _) (by assumption)))) | with_reducible exact (SeesX.set (SeesX.of (Nat.le_refl _) (by assumption))) | exact SeesX.of (Nat.le_refl _) (below_drewN (brefl _) 1) | exact SeesX.of (Nat.le_refl _) (below_drewN (by assumption) _))
    (first
      | (go_at_call 70; (with_reducible refine (r01_mul _ b1 A1 n1 c1 ((q).num) ((k)) ?_ b'2 A'2 n'2 c'2 (((q').den : Int)) ((k')) ?_ ?_).mono ?_); (exact h1.iz); (exact h'2.iz); (omega); rintro e w4 ⟨b4, A4, n4, c4, rfl, h4, hb4⟩; replace hb4 := bnext (below_drewN (brefl _) 1) hb4; have q4 : Below w3.heap.size w3 w4 := bnext (brefl w3) hb4; replace h := h.belw hb4; replace h' := h'.belw hb4; replace h1 := h1.belw hb4; replace h'1 := h'1.belw hb4; replace h2 := h2.belw hb4; replace h'2 := h'2.belw hb4)
      | (go_at_call 70; (with_reducible refine (r01_mul _ b'1 A'1 n'1 c'1 (((q).den : Int)) ((k)) ?_ b2 A2 n2 c2 ((q').num) ((k')) ?_ ?_).mono ?_); (exact h'1.iz); (exact h2.iz); (omega); rintro e w5 ⟨b5, A5, n5, c5, rfl, h5, hb5⟩; have q5 : Below w3.heap.size w3 w5 := bnext q4 hb5; replace h := h.belw hb5; replace h' := h'.belw hb5; replace h1 := h1.belw hb5; replace h'1 := h'1.belw hb5; replace h2 := h2.belw hb5; replace h'2 := h'2.belw hb5; replace h4 := h4.belw hb5)
      | (go_at_call 78; (with_reducible refine (g_from _ b4 A4 n4 c4 (((q).num) * (((q').den : Int))) (((k)) + ((k'))) ?_ b5 A5 n5 c5 ((((q).den : Int)) * ((q').num)) (((k)) + ((k'))) ?_ (q / q') (k + k') ?_ ?_ ?_ ?_).mono ?_); (exact h4.iz); (exact h5.iz); (exact Int.mul_ne_zero (den_ne _) (fun x => HN.out (Rat.num_eq_zero.1 x))); (exact (div_q _ _ HN.out).symm); (exact Sz_div HS.out HS'.out HN.out); (omega); rintro e w6 ⟨b6, A6, n6, c6, A'6, n'6, c'6, rfl, h6, hb6⟩; have q6 : Below w3.heap.size w3 w6 := bnext q5 hb6; replace h := h.belw hb6; replace h' := h'.belw hb6; replace h1 := h1.belw hb6; replace h'1 := h'1.belw hb6; replace h2 := h2.belw hb6; replace h'2 := h'2.belw hb6; replace h4 := h4.belw hb6; replace h5 := h5.belw hb6; have x1c := x1c.b q6; obtain ⟨cx1ca, cx1cb, cx1cc⟩ := x1c.c3; obtain ⟨fx1ca, fx1cb, fx1cc⟩ := x1c.f3))
  have bw6 := bw3.trans (q6.mono bw3.size)
  clear lx1a lx1ba lx1bb lx1bc lx1bd cx1ca fx1ca cx1cb fx1cb cx1cc fx1cc lx1c cx2a lx2a cx2b lx2b cx3a lx3a cx3b lx3b
  replace x1a := x1a.b q6
  replace x1b := x1b.b q6
  replace x2a := x2a.b q6
  replace x2b := x2b.b q6
  replace x3a := x3a.b q6
  replace x3b := x3b.b q6
  have lw6 := q6.size
  obtain ⟨cx1ca, cx1cb, cx1cc⟩ := x1c.c3
  obtain ⟨fx1ca, fx1cb, fx1cc⟩ := x1c.f3
  go_wp2_with fail
  refine bodyPost_ret (v := .tuple #[.agg #[.bool b6, .slice A6 n6 c6, .slice A'6 n'6 c'6], .int .i64 0]) (by simp [results, Tryz.results67, go_sem, *] <;> trivial) rfl ?_
  exact ⟨b6, A6, n6, c6, A'6, n'6, c'6, rfl, h6.keep ((((Kp.refl w6).sb (w.heap.size + 1 + 1) 0 x1c.box (by decide) (.bool b6)).sb (w.heap.size + 1 + 1) 1 (x1c.box.set ⟨w.heap.size + 1 + 1, 0, none⟩ (.bool b6)) (by decide) (.slice A6 n6 c6)).sb (w.heap.size + 1 + 1) 2 ((x1c.box.set ⟨w.heap.size + 1 + 1, 0, none⟩ (.bool b6)).set ⟨w.heap.size + 1 + 1, 1, none⟩ (.slice A6 n6 c6)) (by decide) (.slice A'6 n'6 c'6)), (((bw6.sc (w.heap.size + 1 + 1) 0 (by omega) (.bool b6)).sc (w.heap.size + 1 + 1) 1 (by omega) (.slice A6 n6 c6)).sc (w.heap.size + 1 + 1) 2 (by omega) (.slice A'6 n'6 c'6))⟩
end Go.Proofs.YtianjkiakkclgaaGreatDoor

/- Walks: the reference: turns. -/
namespace Go.Proofs.YtianjkiakkclgaaGreatDoor
open Go Go.RowKit Bn
attribute [local go_sem ↓] Go.wp_at_zero Go.wp_at_succ
theorem u_one (w : World)  :
  Calls Tryz.prog 34 #[] w (RetF w ((1 : Int) : Rat) 1) := by
 go_enter Tryz.func34, Tryz.ntmps34
 go_wp2_with fail
 (with_reducible refine (g_of _ (1) ?_ ?_).mono ?_); (omega); (omega); rintro e w1 ⟨b1, A1, n1, c1, A'1, n'1, c'1, rfl, h1, hb1⟩
 have q1 := hb1.q1
 have x1a : Blk w1 w.heap.size 24 #[.bool false, .slice none 0 0, .slice none 0 0] := (blkAt _ _ _ (by simp)).below hb1 (by simp)
 have bw1 := (brefl w).trans (q1.mono (brefl w).size)
 have lw1 := hb1.l1
 clear q1
 have cx1a := x1a.c3
 have fx1a := x1a.f3
 have lx1a := lts0 x1a.lt
 go_wp2_with fail
 refine bodyPost_ret (v := .agg #[.bool b1, .slice A1 n1 c1, .slice A'1 n'1 c'1]) (by simp [results, Tryz.results34, go_sem, *] <;> trivial) rfl ?_
 have kp := ((((Kp.refl w1).sb w.heap.size 0 x1a.box (by decide) (.bool b1)).sb w.heap.size 1 (x1a.box.set ⟨w.heap.size, 0, none⟩ (.bool b1)) (by decide) (.slice A1 n1 c1)).sb w.heap.size 2 ((x1a.box.set ⟨w.heap.size, 0, none⟩ (.bool b1)).set ⟨w.heap.size, 1, none⟩ (.slice A1 n1 c1)) (by decide) (.slice A'1 n'1 c'1))
 exact ⟨b1, A1, n1, c1, A'1, n'1, c'1, rfl, h1.keep kp, (((bw1.sc w.heap.size 0 (by omega) (.bool b1)).sc w.heap.size 1 (by omega) (.slice A1 n1 c1)).sc w.heap.size 2 (by omega) (.slice A'1 n'1 c'1))⟩
theorem u_over (w : World) (b A n c D m e q k) (h : QZ w b A n c D m e q k) (b' A' n' c' D' m' e' q' k') (h' : QZ w b' A' n' c' D' m' e' q' k') (h0 : 0 < k) (hk : k ≤ 40000000) (h0' : 0 < k') (hk' : k' ≤ 40000000) (hne : q' ≠ 0) :
  Calls Tryz.prog 36 #[.agg #[.bool b, .slice A n c, .slice D m e], .agg #[.bool b', .slice A' n' c', .slice D' m' e']] w (RetF w (q / q') (k + k')) := by
 have HN := Lib.hid hne
 clear hne
 go_enter Tryz.func36, Tryz.ntmps36
 go_wp2_with fail
 (with_reducible refine (g_div _ b A n c D m e (q) (k) ?_ b' A' n' c' D' m' e' (q') (k') ?_ ?_ ?_ ?_ ?_ ?_).mono ?_); (exact (h.belw ((((Below.refl _ _).alloc (Nat.le_refl _) _).alloc (by simp) _).alloc (by simp <;> omega) _))); (exact (h'.belw ((((Below.refl _ _).alloc (Nat.le_refl _) _).alloc (by simp) _).alloc (by simp <;> omega) _))); (omega); (omega); (omega); (omega); (exact HN.out); rintro e w1 ⟨b1, A1, n1, c1, A'1, n'1, c'1, rfl, h1, hb1⟩
 have q1 := hb1.q3
 replace h := h.belw q1
 replace h' := h'.belw q1
 have x1a : Blk w1 w.heap.size 24 #[.bool b, .slice A n c, .slice D m e] := (((blkAt _ _ _ (by simp)).alloc _).alloc _).below hb1 (by simp <;> omega)
 have x1b := ((blkAt _ _ _ (g := w.heap.size + 1) (by simp)).alloc _).below hb1 (by simp <;> omega)
 have x1c := (blkAt _ _ _ (g := w.heap.size + 1 + 1) (by simp)).below hb1 (by simp)
 have bw1 := (brefl w).trans (q1.mono (brefl w).size)
 have lw1 := hb1.l3
 clear q1
 have cx1c := x1c.c3
 have fx1c := x1c.f3
 have lx1c := lts2 x1c.lt
 go_wp2_with fail
 refine bodyPost_ret (v := .agg #[.bool b1, .slice A1 n1 c1, .slice A'1 n'1 c'1]) (by simp [results, Tryz.results36, go_sem, *] <;> trivial) rfl ?_
 have kp := (((((Kp.refl w1).sb (w.heap.size + 1 + 1) 0 x1c.box (by decide) (.bool b1)).sb (w.heap.size + 1 + 1) 1 (x1c.box.set ⟨w.heap.size + 1 + 1, 0, none⟩ (.bool b1)) (by decide) (.slice A1 n1 c1)).sb (w.heap.size + 1 + 1) 2 ((x1c.box.set ⟨w.heap.size + 1 + 1, 0, none⟩ (.bool b1)).set ⟨w.heap.size + 1 + 1, 1, none⟩ (.slice A1 n1 c1)) (by decide) (.slice A'1 n'1 c'1)).alloc (.cells #[.bool b1, .slice A1 n1 c1, .slice A'1 n'1 c'1] 24))
 exact ⟨b1, A1, n1, c1, A'1, n'1, c'1, rfl, h1.keep kp, ((((bw1.sc (w.heap.size + 1 + 1) 0 (by omega) (.bool b1)).sc (w.heap.size + 1 + 1) 1 (by omega) (.slice A1 n1 c1)).sc (w.heap.size + 1 + 1) 2 (by omega) (.slice A'1 n'1 c'1)).alloc (by first | omega | (simp <;> omega)) (.cells #[.bool b1, .slice A1 n1 c1, .slice A'1 n'1 c'1] 24))⟩
end Go.Proofs.YtianjkiakkclgaaGreatDoor

/- Walks: the reference: sums of turns. -/
namespace Go.Proofs.YtianjkiakkclgaaGreatDoor
open Go Go.RowKit Bn
attribute [local go_sem ↓] Go.wp_at_zero Go.wp_at_succ
theorem THalf.zero (w : World) : TK w false none 0 0 none 0 0 true thalf 1 := ⟨⟨⟨false, [], []⟩, ⟨rfl, Wd.nil_ w, Wd.nil_ w, Nat.zero_le _, Nat.zero_le _⟩, by rfl, by rfl⟩, rfl, fun _ => rfl⟩
theorem tv_half (w : World) (k : Nat) : TV w false none 0 0 none 0 0 true thalf k := ⟨QV.zero _ _, rfl, fun _ => rfl⟩
end Go.Proofs.YtianjkiakkclgaaGreatDoor

/- Decimal texts: plain numbers and lists of bytes. -/
namespace Bn
open Go.Lib
theorem dec_push {q d : Nat} (hq : 0 < q) (hd : d < 10) : decDigits (q * 10 + d) = decDigits q ++ [UInt8.ofNat (48 + d)] := by
  rw [decDigits, dif_neg (by omega), show (q * 10 + d) / 10 = q by omega, show (q * 10 + d) % 10 = d by omega]
def padN : Nat → Nat → List UInt8
  | 0, _ => []
  | k + 1, r => padN k (r / 10) ++ [UInt8.ofNat (48 + r % 10)]
theorem dec_pad : ∀ (k : Nat) {q r : Nat}, 0 < q → r < 10 ^ k → decDigits (q * 10 ^ k + r) = decDigits q ++ padN k r
  | 0, q, r, _, hr => by
    have : r = 0 := by simpa using hr
    subst this
    simp [padN]
  | k + 1, q, r, hq, hr => by
    have h1 : r / 10 < 10 ^ k := by rw [Nat.pow_succ] at hr; omega
    have h2 : 0 < q * 10 ^ k := Nat.mul_pos hq (Nat.pow_pos (by omega))
    have e : q * 10 ^ (k + 1) + r = (q * 10 ^ k + r / 10) * 10 + r % 10 := by
      rw [Nat.pow_succ, ← Nat.mul_assoc]
      generalize q * 10 ^ k = P
      omega
    rw [e, dec_push (by omega) (Nat.mod_lt _ (by omega)), dec_pad k hq h1, padN, List.append_assoc]
theorem nDig_le : ∀ {k u : Nat}, 0 < k → u < 10 ^ k → nDigits u ≤ k
  | 0, _, h, _ => absurd h (by omega)
  | k + 1, u, _, hu => by
    by_cases h : u < 10
    · rw [nDigits_small h]; omega
    · rw [nDigits_big h]
      have h0 : k ≠ 0 := by rintro rfl; exact h (by simpa using hu)
      have := nDig_le (k := k) (u := u / 10) (by omega) (by rw [Nat.pow_succ] at hu; omega)
      omega
theorem pad_zero : ∀ k, padN k 0 = repeatL [48] k
  | 0 => rfl
  | k + 1 => by rw [padN, pad_zero k, repeatL_add, repeatL_one]; rfl
theorem pad_eq : ∀ {k r : Nat}, 0 < k → r < 10 ^ k → padN k r = repeatL [48] (k - nDigits r) ++ decDigits r
  | 0, _, h, _ => absurd h (by omega)
  | k + 1, r, _, hr => by
    rw [padN]
    by_cases h : r < 10
    · rw [Nat.div_eq_of_lt h, pad_zero, nDigits_small h, decDigits_one h, Nat.mod_eq_of_lt h]; rfl
    · have h0 : k ≠ 0 := by rintro rfl; exact h (by simpa using hr)
      rw [pad_eq (k := k) (r := r / 10) (by omega) (by rw [Nat.pow_succ] at hr; omega), nDigits_big h, List.append_assoc]
      congr 1
      · congr 1; omega
      · conv => rhs; rw [decDigits, dif_neg h]
def TxtI (N q : Nat) (ps : List (List UInt8)) : Prop := (0 < q → decDigits N = decDigits q ++ ps.flatten) ∧ (q = 0 → decDigits N = ps.flatten) ∧ ps.length ≤ ps.flatten.length
theorem TxtI.start {N : Nat} (h : 0 < N) : TxtI N N [] := ⟨fun _ => by simp, fun e => absurd e (by omega), by simp⟩
theorem TxtI.more {N q : Nat} {ps : List (List UInt8)} (h : TxtI N q ps) (hq : 0 < q / 1000000000) :
    TxtI N (q / 1000000000) ((repeatL [48] (9 - nDigits (q % 1000000000)) ++ decDigits (q % 1000000000)) :: ps) := by
  have hr : q % 1000000000 < 10 ^ 9 := Nat.mod_lt _ (by omega)
  have e : q / 1000000000 * 10 ^ 9 + q % 1000000000 = q := by rw [Nat.mul_comm]; exact Nat.div_add_mod q 1000000000
  refine ⟨fun _ => ?_, fun e => absurd e (by omega), ?_⟩
  · rw [h.1 (by omega), List.flatten_cons, ← List.append_assoc, ← pad_eq (by omega) hr, ← dec_pad 9 hq hr, e]
  · have h3 := h.2.2
    have h4 := nDigits_pos (q % 1000000000)
    simp only [List.length_cons, List.flatten_cons, List.length_append, decDigits_length]
    omega
theorem TxtI.last {N q : Nat} {ps : List (List UInt8)} (h : TxtI N q ps) (h0 : 0 < q) (hq : q / 1000000000 = 0) :
    TxtI N (q / 1000000000) (decDigits (q % 1000000000) :: ps) := by
  have e : q % 1000000000 = q := Nat.mod_eq_of_lt (by omega)
  rw [e]
  refine ⟨fun e => absurd e (by omega), fun _ => ?_, ?_⟩
  · rw [h.1 h0, List.flatten_cons]
  · have h3 := h.2.2
    have h4 := nDigits_pos q
    simp only [List.length_cons, List.flatten_cons, List.length_append, decDigits_length]
    omega
theorem TxtI.len {N q : Nat} {ps : List (List UInt8)} (h : TxtI N q ps) : ps.flatten.length ≤ nDigits N ∧ ps.length ≤ nDigits N := by
  have h3 := h.2.2
  have : ps.flatten.length ≤ nDigits N := by
    rw [← decDigits_length]
    rcases Nat.eq_zero_or_pos q with e | e
    · rw [h.2.1 e]; exact Nat.le_refl _
    · rw [h.1 e, List.length_append]; omega
  exact ⟨this, by omega⟩
theorem nDig_words {N n : Nat} (hn : 0 < n) (h : N < 4294967296 ^ n) : nDigits N ≤ 10 * n := by
  refine nDig_le (by omega) (Nat.lt_of_lt_of_le h ?_)
  rw [Nat.pow_mul]
  exact Nat.pow_le_pow_left (by omega) n
theorem nDig_words' {N n K : Nat} (hK : n ≤ K) (h0 : 0 < K) (h : N < 4294967296 ^ n) : nDigits N ≤ 10 * K :=
  nDig_words h0 (Nat.lt_of_lt_of_le h (Nat.pow_le_pow_right (by omega) hK))
theorem itoa_abs (z : Int) : itoa z = (if z < 0 then [45] else []) ++ decDigits z.natAbs := by
  unfold itoa
  split
  · rfl
  · rw [show z.toNat = z.natAbs by omega]; rfl
end Bn

/- Digits one by one; texts read as numbers: plain. -/
namespace Bn
open Go.Lib
def dg (V : Nat) : List UInt8 := if V = 0 then [] else decDigits V
theorem dg_zero : dg 0 = [] := rfl
theorem dg_pos {V : Nat} (h : 0 < V) : dg V = decDigits V := if_neg (by omega)
theorem dg_step {V : Nat} (h : 0 < V) : dg V = dg (V / 10) ++ [UInt8.ofNat (48 + V % 10)] := by
  unfold dg
  rw [if_neg (by omega)]
  by_cases h1 : V < 10
  · rw [if_pos (by omega), decDigits_one h1, Nat.mod_eq_of_lt h1]; rfl
  · rw [if_neg (by omega)]; conv => lhs; rw [decDigits, dif_neg h1]
def DgI (N q k r : Nat) (s : List UInt8) : Prop := decDigits N = dg (q * 10 ^ (9 - k) + r) ++ s ∧ r < 10 ^ (9 - k)
theorem DgI.start {N Q : Nat} {s : List UInt8} (h : decDigits N = dg Q ++ s) : DgI N (Q / 1000000000) 0 (Q % 1000000000) s := by
  refine ⟨?_, Nat.mod_lt _ (by decide)⟩
  rw [show Q / 1000000000 * 10 ^ (9 - 0) + Q % 1000000000 = Q by rw [Nat.mul_comm]; exact Nat.div_add_mod Q 1000000000]
  exact h
theorem DgI.step {N q k r : Nat} {s : List UInt8} (h : DgI N q k r s) (hk : k < 9) (h0 : 0 < r ∨ 0 < q) : DgI N q (k + 1) (r / 10) ([UInt8.ofNat (48 + r % 10)] ++ s) := by
  obtain ⟨h1, h2⟩ := h
  have e : 10 ^ (9 - k) = 10 ^ (9 - (k + 1)) * 10 := by rw [← Nat.pow_succ]; congr 1; omega
  rw [e] at h1 h2
  have hp : 0 < 10 ^ (9 - (k + 1)) := Nat.pow_pos (by omega)
  unfold DgI
  generalize 10 ^ (9 - (k + 1)) = P at *
  have e2 : q * (P * 10) + r = (q * P + r / 10) * 10 + r % 10 := by rw [← Nat.mul_assoc]; omega
  have h3 : 0 < q * (P * 10) + r := by
    rcases h0 with h | h
    · omega
    · have := Nat.mul_pos h (show 0 < P * 10 by omega); omega
  refine ⟨?_, by omega⟩
  rw [h1, dg_step h3, e2, show ((q * P + r / 10) * 10 + r % 10) / 10 = q * P + r / 10 by omega, show ((q * P + r / 10) * 10 + r % 10) % 10 = r % 10 by omega, List.append_assoc]
theorem DgI.done9 {N q r : Nat} {s : List UInt8} (h : DgI N q 9 r s) : decDigits N = dg q ++ s := by
  obtain ⟨h1, h2⟩ := h
  have : r = 0 := by simpa using h2
  subst this
  simpa using h1
theorem DgI.done0 {N k : Nat} {s : List UInt8} (h : DgI N 0 k 0 s) : decDigits N = dg 0 ++ s := by
  obtain ⟨h1, _⟩ := h
  simpa using h1
theorem dg_len {N Q : Nat} {s : List UInt8} (h : decDigits N = dg Q ++ s) : s.length ≤ nDigits N := by
  rw [← decDigits_length, h, List.length_append]; omega
theorem DgI.len {N q k r : Nat} {s : List UInt8} (h : DgI N q k r s) : s.length ≤ nDigits N := dg_len h.1

/-! ### Texts read -/
def isDg (c : UInt8) : Bool := decide (48 ≤ c.toNat) && decide (c.toNat ≤ 57)
def dval (c : UInt8) : Nat := c.toNat - 48
def decVal (l : List UInt8) : Nat := l.foldl (fun a c => a * 10 + dval c) 0
theorem foldl_dec (l : List UInt8) : ∀ a, l.foldl (fun a c => a * 10 + dval c) a = a * 10 ^ l.length + decVal l := by
  unfold decVal
  induction l with
  | nil => intro a; simp
  | cons x r ih =>
    intro a
    rw [List.foldl_cons, ih, List.foldl_cons, ih (0 * 10 + dval x), List.length_cons, Nat.pow_succ, Nat.add_mul]
    rw [Nat.zero_mul, Nat.zero_add, Nat.mul_assoc, Nat.mul_comm 10, Nat.add_assoc]
theorem decVal_app (a b : List UInt8) : decVal (a ++ b) = decVal a * 10 ^ b.length + decVal b := by
  conv => lhs; unfold decVal
  rw [List.foldl_append, foldl_dec]; rfl
theorem decVal_snoc (a : List UInt8) (c : UInt8) : decVal (a ++ [c]) = decVal a * 10 + dval c := by
  rw [decVal_app]; simp [decVal]
theorem decVal_lt : ∀ {l : List UInt8}, l.all isDg = true → decVal l < 10 ^ l.length := by
  intro l
  induction l with
  | nil => intro _; simp [decVal]
  | cons x r ih =>
    intro h
    rw [List.all_cons, Bool.and_eq_true] at h
    have h1 := ih h.2
    have hx : dval x ≤ 9 := by
      have := h.1; unfold isDg at this; simp at this; unfold dval; omega
    have e : decVal (x :: r) = dval x * 10 ^ r.length + decVal r := by
      have := decVal_app [x] r
      simpa [decVal] using this
    rw [e, List.length_cons, Nat.pow_succ]
    have := Nat.mul_le_mul_right (10 ^ r.length) hx
    omega
def tailS (l : List UInt8) : List UInt8 := match l with | 45 :: r => r | l => l
def headM (l : List UInt8) : Bool := match l with | 45 :: _ => true | _ => false
def okZ (l : List UInt8) : Bool := decide (tailS l ≠ []) && (tailS l).all isDg && !(decide ((tailS l).head? = some 48) && (decide (1 < (tailS l).length) || headM l))
def valZ (l : List UInt8) : Int := if headM l then -(decVal (tailS l) : Int) else decVal (tailS l)
theorem digit_ok {d : Nat} (h : d < 10) : isDg (UInt8.ofNat (48 + d)) = true ∧ dval (UInt8.ofNat (48 + d)) = d := by
  have e : (UInt8.ofNat (48 + d)).toNat = 48 + d := by simp; omega
  unfold isDg dval
  rw [e]
  simp; omega
theorem dec_all (n : Nat) : (decDigits n).all isDg = true ∧ decVal (decDigits n) = n := by
  induction n using Nat.strongRecOn with
  | ind n ih =>
    by_cases h : n < 10
    · rw [decDigits_one h]
      have h1 := digit_ok h
      generalize UInt8.ofNat (48 + n) = c at h1
      refine ⟨by rw [List.all_cons, h1.1]; rfl, ?_⟩
      rw [← List.nil_append [c], decVal_snoc, h1.2]; simp [decVal]
    · have e : decDigits n = decDigits (n / 10) ++ [UInt8.ofNat (48 + n % 10)] := by
        conv => lhs; rw [decDigits, dif_neg h]
      have h1 := ih (n / 10) (by omega)
      have h2 := digit_ok (Nat.mod_lt n (show 0 < 10 by omega))
      generalize UInt8.ofNat (48 + n % 10) = c at h2 e
      refine ⟨by rw [e, List.all_append, h1.1, List.all_cons, h2.1]; rfl, ?_⟩
      rw [e, decVal_snoc, h1.2, h2.2]; omega
theorem dec_head {n : Nat} (h : 0 < n) : ∃ c r, decDigits n = c :: r ∧ c ≠ 48 ∧ c ≠ 45 := by
  induction n using Nat.strongRecOn with
  | ind n ih =>
    by_cases h1 : n < 10
    · rw [decDigits_one h1]
      refine ⟨_, [], rfl, ?_, ?_⟩
      · intro e
        have := congrArg UInt8.toNat e
        simp at this; omega
      · intro e
        have := congrArg UInt8.toNat e
        simp at this; omega
    · have e : decDigits n = decDigits (n / 10) ++ [UInt8.ofNat (48 + n % 10)] := by
        conv => lhs; rw [decDigits, dif_neg h1]
      obtain ⟨c, r, h2, h3⟩ := ih (n / 10) (by omega) (by omega)
      exact ⟨c, r ++ [UInt8.ofNat (48 + n % 10)], by rw [e, h2]; rfl, h3⟩
theorem itoa_ok (z : Int) : okZ (itoa z) = true ∧ valZ (itoa z) = z := by
  rw [itoa_abs]
  rcases Nat.eq_zero_or_pos z.natAbs with h | h
  · have : z = 0 := by omega
    subst this
    rw [if_neg (by decide), show (0 : Int).natAbs = 0 from rfl, decDigits_one (by omega)]
    decide
  · obtain ⟨c, r, e, h1, h2⟩ := dec_head h
    have ha := dec_all z.natAbs
    by_cases hz : z < 0
    · rw [if_pos hz]
      have et : tailS ([45] ++ decDigits z.natAbs) = decDigits z.natAbs := rfl
      have em : headM ([45] ++ decDigits z.natAbs) = true := rfl
      unfold okZ valZ
      rw [et, em, ha.1, ha.2, e]
      simp [h1]; omega
    · rw [if_neg hz, List.nil_append]
      have et : tailS (decDigits z.natAbs) = decDigits z.natAbs := by rw [e]; unfold tailS; split <;> simp_all
      have em : headM (decDigits z.natAbs) = false := by rw [e]; unfold headM; split <;> simp_all
      unfold okZ valZ
      rw [et, em, ha.1, ha.2, e]
      simp [h1]; omega
end Bn

/- Texts of fractions: plain. -/
namespace Bn
open Go.Lib
theorem ofNat_dval {c : UInt8} (h : isDg c = true) : UInt8.ofNat (48 + dval c) = c := by
  unfold isDg at h
  rw [Bool.and_eq_true, decide_eq_true_eq, decide_eq_true_eq] at h
  unfold dval
  rw [show 48 + (c.toNat - 48) = c.toNat by omega]
  simp
theorem dval_lt {c : UInt8} (h : isDg c = true) : dval c < 10 := by
  unfold isDg at h
  rw [Bool.and_eq_true, decide_eq_true_eq, decide_eq_true_eq] at h
  unfold dval; omega
theorem dec_canon : ∀ (k : Nat) {t : List UInt8}, t.length = k → t.all isDg = true → t ≠ [] → (t.head? ≠ some 48 ∨ t.length = 1) → decDigits (decVal t) = t := by
  intro k
  induction k with
  | zero => intro t h1 _ h2 _; exact absurd (List.eq_nil_of_length_eq_zero h1) h2
  | succ k ih =>
    intro t h1 h2 h3 h4
    have e := (List.dropLast_concat_getLast h3).symm
    generalize t.dropLast = u at e
    generalize t.getLast h3 = c at e
    subst e
    rw [List.all_append, Bool.and_eq_true, List.all_cons, Bool.and_eq_true] at h2
    have hc := h2.2.1
    rw [decVal_snoc]
    by_cases hu : u = []
    · subst hu
      rw [show decVal [] = 0 from rfl, Nat.zero_mul, Nat.zero_add, decDigits_one (dval_lt hc), ofNat_dval hc]; rfl
    · have hh : u.head? ≠ some 48 := by
        rcases h4 with h | h
        · intro e; apply h; cases u with
          | nil => exact absurd rfl hu
          | cons x r => exact e
        · rw [List.length_append, List.length_singleton] at h
          have := List.length_pos_iff.2 hu
          omega
      have hi := ih (t := u) (by rw [List.length_append] at h1; simp at h1; exact h1) h2.1 hu (.inl hh)
      have hp : 0 < decVal u := by
        rcases Nat.eq_zero_or_pos (decVal u) with h | h
        · rw [h, decDigits_one (by omega)] at hi
          exfalso; apply hh; rw [← hi]; rfl
        · exact h
      rw [dec_push hp (dval_lt hc), hi, ofNat_dval hc]
theorem dec_pos {t : List UInt8} (h1 : t.all isDg = true) (h2 : t ≠ []) (h3 : t.head? ≠ some 48) : 0 < decVal t := by
  have hi := dec_canon _ rfl h1 h2 (.inl h3)
  rcases Nat.eq_zero_or_pos (decVal t) with h | h
  · rw [h, decDigits_one (by omega)] at hi
    exfalso; apply h3; rw [← hi]; rfl
  · exact h
theorem okZ_canon {l : List UInt8} (h : okZ l = true) : itoa (valZ l) = l := by
  have hp : tailS l ≠ [] ∧ (tailS l).all isDg = true ∧ ¬ ((tailS l).head? = some 48 ∧ (1 < (tailS l).length ∨ headM l = true)) := by
    unfold okZ at h
    simp at h
    refine ⟨h.1.1, by simpa using h.1.2, fun ⟨a, b⟩ => ?_⟩
    rcases h.2 with e | e
    · exact e a
    · rcases b with b | b
      · omega
      · rw [b] at e; exact absurd e.2 (by simp)
  obtain ⟨h0, h1, h2⟩ := hp
  have hl : (headM l = true ∧ l = 45 :: tailS l) ∨ (headM l = false ∧ tailS l = l) := by
    cases l with
    | nil => exact .inr ⟨rfl, rfl⟩
    | cons x r =>
      by_cases h : x = 45
      · subst h; exact .inl ⟨rfl, rfl⟩
      · refine .inr ⟨?_, ?_⟩
        · unfold headM; split
          · rename_i h1; injection h1 with h2; exact absurd h2 h
          · rfl
        · unfold tailS; split
          · rename_i h1; injection h1 with h2; exact absurd h2 h
          · rfl
  have hz : (tailS l).head? ≠ some 48 ∨ (tailS l).length = 1 := by
    by_cases e : (tailS l).head? = some 48
    · right
      have := List.length_pos_iff.2 h0
      have : ¬ 1 < (tailS l).length := fun h => h2 ⟨e, .inl h⟩
      omega
    · exact .inl e
  have hd := dec_canon _ rfl h1 h0 hz
  unfold valZ
  rcases hl with ⟨hm, hl⟩ | ⟨hm, hl⟩
  · have hne : (tailS l).head? ≠ some 48 := fun e => h2 ⟨e, .inr hm⟩
    have hpos := dec_pos h1 h0 hne
    rw [hm, if_pos rfl, itoa_abs, if_pos (by omega), show (-(decVal (tailS l) : Int)).natAbs = decVal (tailS l) by omega, hd]
    exact hl.symm
  · rw [hm, if_neg (by simp), itoa_abs, if_neg (by omega), show ((decVal (tailS l) : Int)).natAbs = decVal (tailS l) by omega, hd]
    exact hl
theorem itoa_inj {x y : Int} (h : itoa x = itoa y) : x = y := by
  rw [← (itoa_ok x).2, h, (itoa_ok y).2]
theorem okZ_mem {l : List UInt8} (h : okZ l = true) {c : UInt8} (hc : c ∈ l) : isDg c = true ∨ c = 45 := by
  have h1 : (tailS l).all isDg = true := by unfold okZ at h; simp at h; simpa using h.1.2
  rw [List.all_eq_true] at h1
  unfold tailS at h1
  split at h1
  · rename_i r
    rcases List.mem_cons.1 hc with e | e
    · exact .inr e
    · exact .inl (h1 c e)
  · exact .inl (h1 c hc)
theorem okZ_slash {l : List UInt8} (h : okZ l = true) : 47 ∉ l ∧ 46 ∉ l := by
  constructor
  · intro hc
    rcases okZ_mem h hc with e | e
    · exact absurd e (by decide)
    · exact absurd e (by decide)
  · intro hc
    rcases okZ_mem h hc with e | e
    · exact absurd e (by decide)
    · exact absurd e (by decide)
theorem cut_uniq {c : UInt8} : ∀ {a b x y : List UInt8}, c ∉ a → c ∉ x → a ++ c :: b = x ++ c :: y → a = x ∧ b = y := by
  intro a
  induction a with
  | nil =>
    intro b x y _ hx h
    cases x with
    | nil => simp at h; exact ⟨rfl, h⟩
    | cons z r => simp at h; exact absurd h.1 (fun e => hx (by rw [e]; simp))
  | cons w r ih =>
    intro b x y ha hx h
    cases x with
    | nil => simp at h; exact absurd h.1 (fun e => ha (by rw [e]; simp))
    | cons z s =>
      simp at h ha hx
      obtain ⟨e1, e2⟩ := ih ha.2 hx.2 h.2
      exact ⟨by rw [h.1, e1], e2⟩
def ratText (q : Rat) : List UInt8 := if q.den = 1 then itoa q.num else itoa q.num ++ 47 :: itoa (q.den : Int)
theorem divInt_cop {n d : Int} (hd : 0 < d) (hg : Nat.gcd n.natAbs d.natAbs = 1) : (Rat.divInt n d).num = n ∧ ((Rat.divInt n d).den : Int) = d := by
  obtain ⟨k, rfl⟩ : ∃ k : Nat, d = k := ⟨d.toNat, by omega⟩
  have hk : k ≠ 0 := by omega
  rw [Rat.divInt_ofNat]
  have : mkRat n k = ⟨n, k, hk, by simpa using hg⟩ := by
    rw [← Rat.normalize_eq_mkRat hk]
    exact Rat.normalize_self ⟨n, k, hk, by simpa using hg⟩
  rw [this]
  exact ⟨rfl, rfl⟩
theorem frac_text {F B : List UInt8} (hF : okZ F = true) (hB : okZ B = true) (hp : 0 < valZ B) :
    (ratText (Rat.divInt (valZ F) (valZ B)) = F ++ 47 :: B) ↔ (valZ B ≠ 1 ∧ Nat.gcd (valZ F).natAbs (valZ B).natAbs = 1) := by
  constructor
  · intro h
    unfold ratText at h
    split at h
    · exfalso
      have h1 := (okZ_slash (itoa_ok (Rat.divInt (valZ F) (valZ B)).num).1).1
      rw [h] at h1
      exact h1 (by simp)
    · rename_i hd
      obtain ⟨e1, e2⟩ := cut_uniq (okZ_slash (itoa_ok _).1).1 (okZ_slash hF).1 h
      have e1 := itoa_inj (e1.trans (okZ_canon hF).symm)
      have e2 := itoa_inj (e2.trans (okZ_canon hB).symm)
      have hr := (Rat.divInt (valZ F) (valZ B)).reduced
      generalize Rat.divInt (valZ F) (valZ B) = q at *
      refine ⟨by omega, ?_⟩
      rw [← e1, ← e2]
      simpa [Nat.Coprime] using hr
  · rintro ⟨h1, h2⟩
    obtain ⟨e1, e2⟩ := divInt_cop hp h2
    unfold ratText
    rw [if_neg (by omega), e1, e2, okZ_canon hF, okZ_canon hB]
theorem index_at {c : UInt8} : ∀ {a b : List UInt8}, c ∉ a → index (a ++ c :: b) [c] = (a.length : Int) := by
  intro a
  induction a with
  | nil => intro b _; rw [List.nil_append, index, if_pos (by simp [List.isPrefixOf])]; rfl
  | cons x r ih =>
    intro b h
    simp at h
    have hp : List.isPrefixOf [c] (x :: (r ++ c :: b)) = false := by simp [List.isPrefixOf]; exact h.1
    rw [List.cons_append, index, hp, ih (b := b) h.2]
    have : ((r.length : Int) == -1) = false := by rw [beq_eq_false_iff_ne]; omega
    simp [this]
theorem index_no {c : UInt8} : ∀ {a : List UInt8}, c ∉ a → index a [c] = -1 := by
  intro a
  induction a with
  | nil => intro _; rfl
  | cons x r ih =>
    intro h
    simp at h
    have hp : List.isPrefixOf [c] (x :: r) = false := by simp [List.isPrefixOf]; exact h.1
    rw [index, hp, ih h.2]
    rfl
theorem cut_at {c : UInt8} {a b : List UInt8} (h : c ∉ a) : cut (a ++ c :: b) [c] = (a, b, true) := by
  unfold cut
  rw [index_at h, if_pos (by omega)]
  simp
theorem cut_no {c : UInt8} {a : List UInt8} (h : c ∉ a) : cut a [c] = (a, [], false) := by
  unfold cut
  rw [index_no h, if_neg (by omega)]
theorem split_at (c : UInt8) : ∀ (s : List UInt8), c ∉ s ∨ ∃ a b, s = a ++ c :: b ∧ c ∉ a := by
  intro s
  induction s with
  | nil => exact .inl (by simp)
  | cons x r ih =>
    by_cases h : x = c
    · subst h; exact .inr ⟨[], r, rfl, by simp⟩
    · rcases ih with e | ⟨a, b, e1, e2⟩
      · exact .inl (by simp; exact ⟨fun h2 => h h2.symm, e⟩)
      · exact .inr ⟨x :: a, b, by rw [e1]; rfl, by simp; exact ⟨fun h2 => h h2.symm, e2⟩⟩
end Bn

/- Walks: integer.Text. -/
namespace Go.Proofs.YtianjkiakkclgaaGreatDoor
open Go Go.RowKit Bn
attribute [local go_sem ↓] Go.wp_at_zero Go.wp_at_succ

def Tab (w : World) : Prop := Lib.TabIs Tryz.prog w "internal/strconv.uint64pow10" .u64 Lib.pow10Tab
theorem Tab.belw {w w' : World} (h : Tab w) (hb : Below w.heap.size w w') : Tab w' := Lib.tabBelow_of_tabIs h w' hb
abbrev strV (l : List UInt8) : Value := .string ⟨l.toArray⟩
def strs (ps : List (List UInt8)) : List Value := ps.map strV
def StrL (w : World) (p : Value) (ps : List (List UInt8)) : Prop := (ps = [] ∧ p = .slice none 0 0) ∨ (ps ≠ [] ∧ ∃ g cap, p = .slice (some ⟨g, 0, none⟩) ps.length cap ∧ g < w.heap.size ∧ ps.length ≤ cap ∧ ∀ j, j < ps.length → w.cell? ⟨g, j, none⟩ = (strs ps)[j]?)
theorem StrL.belw {w w' : World} {p : Value} {ps : List (List UInt8)} (h : StrL w p ps) (hb : Below w.heap.size w w') : StrL w' p ps := by
  rcases h with h | ⟨h0, g, cap, h1, h2, h3, h4⟩
  · exact .inl h
  · refine .inr ⟨h0, g, cap, h1, Nat.lt_of_lt_of_le h2 hb.size, h3, fun j hj => ?_⟩
    rw [← h4 j hj]
    simp only [World.cell?, hb.block g h2]
theorem cat_v (a b : List UInt8) : ((⟨a.toArray⟩ : ByteArray) ++ ⟨b.toArray⟩) = ⟨(a ++ b).toArray⟩ := by
  apply ByteArray.ext
  simp [ByteArray.data_append]
theorem StrL.one (w : World) (S : List UInt8) : StrL (w.alloc (.cells #[strV S] 9)) (.slice (some ⟨w.heap.size, 0, none⟩) 1 1) [S] := by
  refine .inr ⟨by simp, _, _, rfl, by simp, Nat.le_refl _, fun j hj => ?_⟩
  rw [World.cell?_alloc_new]
  have : j = 0 := by simpa using hj
  subst this
  rfl
theorem StrL.own {w : World} {base g cap : Nat} {S : List UInt8} {ps : List (List UInt8)} (h : w.ownsRow base 9 1 (.slice (some ⟨g, 0, none⟩) (1 + ps.length) cap) (1 + ps.length) ([strV S] ++ strs ps)) (hg : g < w.heap.size) :
    StrL w (.slice (some ⟨g, 0, none⟩) (1 + ps.length) cap) (S :: ps) := by
  refine .inr ⟨by simp, g, cap, by rw [List.length_cons, Nat.add_comm], hg, ?_, fun j hj => ?_⟩
  · rcases h.2 with ⟨e, _⟩ | ⟨g', c', cur, e, _, _, hc, _⟩
    · exact absurd e (by simp)
    · injection e with _ _ e2
      rw [List.length_cons]; omega
  · rw [h.cellAt j (by rw [List.length_cons] at hj; omega)]
    rfl
end Go.Proofs.YtianjkiakkclgaaGreatDoor

/- Roots: plain numbers. -/
namespace Bn
theorem pow_sq (k : Nat) : 2 ^ k * 2 ^ k = 2 ^ (2 * k) := by rw [← Nat.pow_add]; congr 1; omega
def RootI (M r i : Nat) : Prop := r * r ≤ M ∧ M < (r + 2 ^ i) * (r + 2 ^ i)
theorem RootI.start {M N : Nat} (h : M < 2 ^ N) : RootI M 0 (N / 2 + 1) := by
  refine ⟨Nat.zero_le _, ?_⟩
  rw [Nat.zero_add, pow_sq]
  exact Nat.lt_of_lt_of_le h (Nat.pow_le_pow_right (by omega) (by omega))
theorem RootI.no {M r i : Nat} (h : RootI M r (i + 1)) (hx : ¬ (r + 2 ^ i) * (r + 2 ^ i) ≤ M) : RootI M r i := ⟨h.1, by omega⟩
theorem RootI.fin {M r : Nat} (h : RootI M r 0) : isq M = r := isq_of h.1 (by have := h.2; simpa using this)
end Bn

/- Numbers of bits: plain numbers. -/
namespace Bn
theorem val_rep (n : Nat) : val (List.replicate n 0) = 0 := by
  induction n with
  | zero => rfl
  | succ n ih => rw [List.replicate_succ, val, ih]
end Bn

/- Walks: integer.Root. -/
namespace Go.Proofs.YtianjkiakkclgaaGreatDoor
open Go Go.RowKit Bn
attribute [local go_sem ↓] Go.wp_at_zero Go.wp_at_succ

def RetIe (w : World) (v : Value) (z : Int) (k : Nat) (e : Ending) (w' : World) : Prop := ∃ b A n c, e = .returned (.tuple #[.agg #[.bool b, .slice A n c], v]) ∧ IV w' b A n c z k ∧ Below w.heap.size w w'
end Go.Proofs.YtianjkiakkclgaaGreatDoor

/- Walks: what the integer laws lean on: short, Same; roots and texts as values. -/
namespace Go.Proofs.YtianjkiakkclgaaGreatDoor
open Go Go.RowKit Bn
attribute [local go_sem ↓] Go.wp_at_zero Go.wp_at_succ
def Ws (w : World) (g N : Nat) (ns : Nat → Nat) : Prop := g < w.heap.size ∧ ∀ i, i < N → ∃ b A c, w.cell? ⟨g, i * 2, none⟩ = some (.bool b) ∧ w.cell? ⟨g, i * 2 + 1, none⟩ = some (.slice A (ns i) c)
theorem Ws.belw {w w' : World} {g N : Nat} {ns : Nat → Nat} (h : Ws w g N ns) (hb : Below w.heap.size w w') : Ws w' g N ns := by
  obtain ⟨hg, h⟩ := h
  have hc := (bcell hb).1
  refine ⟨Nat.lt_of_lt_of_le hg hb.size, fun i hi => ?_⟩
  obtain ⟨b, A, c, h1, h2⟩ := h i hi
  exact ⟨b, A, c, (hc _ _ hg).trans h1, (hc _ _ hg).trans h2⟩
end Go.Proofs.YtianjkiakkclgaaGreatDoor

/- Walks: the opening of the integer laws. -/
namespace Go.Proofs.YtianjkiakkclgaaGreatDoor
open Go Go.RowKit Bn
attribute [local go_sem ↓] Go.wp_at_zero Go.wp_at_succ
theorem IZ.short {w : World} {b : Bool} {A : Option Addr} {n c k : Nat} {z : Int} (h : IZ w b A n c z k) (hs : n ≤ 30) : IZ w b A n c z 30 := by
  obtain ⟨l, h1, h2, _⟩ := h
  exact ⟨l, h1, h2, hs⟩
end Go.Proofs.YtianjkiakkclgaaGreatDoor

/- Walks: fractions: From by 0, Make, Floor, Bits, Abs, Min, Max. -/
namespace Go.Proofs.YtianjkiakkclgaaGreatDoor
open Go Go.RowKit Bn
attribute [local go_sem ↓] Go.wp_at_zero Go.wp_at_succ
theorem cmpI_rc (a b : Rat) : cmpI (a.num * b.den) (b.num * a.den) = rcmp a b := by
  unfold cmpI rcmp
  have h := cmp_q a b
  by_cases h1 : a < b
  · rw [if_pos h1, if_pos (h.1.2 h1)]
  · rw [if_neg h1, if_neg (fun x => h1 (h.1.1 x))]
    by_cases h2 : a = b
    · rw [if_pos h2, if_pos (h.2.2 h2)]
    · rw [if_neg h2, if_neg (fun x => h2 (h.2.1 x))]
theorem sub_rc (q q' : Rat) : (q - q').num.sign = rcmp q q' := by
  have h1 := sign_q (q - q')
  rw [h1]
  unfold rcmp
  have h2 : (q - q' < 0) ↔ q < q' := by constructor <;> intro h <;> grind
  have h3 : (q - q' = 0) ↔ q = q' := by constructor <;> intro h <;> grind
  by_cases h4 : q < q'
  · rw [if_pos h4, if_pos (h2.2 h4)]
  · rw [if_neg h4, if_neg (fun h => h4 (h2.1 h))]
    by_cases h5 : q = q'
    · rw [if_pos h5, if_pos (h3.2 h5)]
    · rw [if_neg h5, if_neg (fun h => h5 (h3.1 h))]
theorem f_sign_v (w : World) (b A n c D m e q k) (h : QZ w b A n c D m e q k) (s : Int) (hs : q.num.sign = s) (h0 : 0 < k) (hk : k ≤ 40000000) : Calls Tryz.prog 27 #[.agg #[.bool b, .slice A n c, .slice D m e]] w (RetV w (.int .i64 s)) := by subst hs; exact f_sign w b A n c D m e q k h h0 hk
theorem g_sign_v (w : World) (b A n c D m e q k) (h : QZ w b A n c D m e q k) (s : Int) (hs : q.num.sign = s) (h0 : 0 < k) (hk : k ≤ 40000000) : Calls Tryz.prog 38 #[.agg #[.bool b, .slice A n c, .slice D m e]] w (RetV w (.int .i64 s)) := by subst hs; exact g_sign w b A n c D m e q k h h0 hk
theorem f_cmp_v (w : World) (b A n c D m e q k) (h : QZ w b A n c D m e q k) (b' A' n' c' D' m' e' q' k') (h' : QZ w b' A' n' c' D' m' e' q' k') (s : Int) (hs : rcmp q q' = s) (h0 : 0 < k) (hk : k ≤ 40000000) (h0' : 0 < k') (hk' : k' ≤ 40000000) : Calls Tryz.prog 22 #[.agg #[.bool b, .slice A n c, .slice D m e], .agg #[.bool b', .slice A' n' c', .slice D' m' e']] w (RetV w (.int .i64 s)) := by
  subst hs; rw [← cmpI_rc]; exact f_cmp w b A n c D m e q k h b' A' n' c' D' m' e' q' k' h' h0 hk h0' hk'
theorem g_cmp_v (w : World) (b A n c D m e q k) (h : QZ w b A n c D m e q k) (b' A' n' c' D' m' e' q' k') (h' : QZ w b' A' n' c' D' m' e' q' k') (s : Int) (hs : rcmp q q' = s) (h0 : 0 < k) (hk : k ≤ 10000000) (h0' : 0 < k') (hk' : k' ≤ 10000000) : Calls Tryz.prog 32 #[.agg #[.bool b, .slice A n c, .slice D m e], .agg #[.bool b', .slice A' n' c', .slice D' m' e']] w (RetV w (.int .i64 s)) := by
  subst hs; rw [← sub_rc]; exact g_cmp w b A n c D m e q k h b' A' n' c' D' m' e' q' k' h' h0 hk h0' hk'
end Go.Proofs.YtianjkiakkclgaaGreatDoor

/- Walks: linkworkref01.Text. -/
namespace Go.Proofs.YtianjkiakkclgaaGreatDoor
open Go Go.RowKit Bn
attribute [local go_sem ↓] Go.wp_at_zero Go.wp_at_succ

theorem dgI_done0 {N k r : Nat} {s : List UInt8} (h : DgI N 0 k r s) (hr : ¬ 0 < r) : Lib.decDigits N = dg 0 ++ s := by
  have : r = 0 := by omega
  subst this
  exact h.done0
def dch (d : Nat) : UInt8 := UInt8.ofNat (48 + d)
theorem digit_cut {d : Nat} (h : d < 10) : (⟨#[48, 49, 50, 51, 52, 53, 54, 55, 56, 57]⟩ : ByteArray).extract d (d + 1) = ⟨[dch d].toArray⟩ := by
  have : ∀ d : Fin 10, (⟨#[48, 49, 50, 51, 52, 53, 54, 55, 56, 57]⟩ : ByteArray).extract d (d + 1) = ⟨[UInt8.ofNat (48 + d)].toArray⟩ := by decide
  exact this ⟨d, h⟩
theorem neg_r (w : World) (b : Bool) (A : Option Addr) (n c : Nat) (l : List Nat) (f : Bool) (wa : Wd w A n c l) (hn : n ≤ 1000000000) (hf : WD.s ⟨b, l⟩ = f) :
    Calls Tryz.prog 102 #[.agg #[.bool b, .slice A n c]] w (RetV w (.bool f)) := r_neg_e w b A n c l f wa (by omega) hf
def RTextI (M : Nat) (W0 wr : World) (m sv : Value) : Prop := ∃ A1 n1 c1 q s, m = .slice A1 n1 c1 ∧ sv = strV s ∧ n1 ≤ 1000000000 ∧ Kept (Wd wr A1 n1 c1 (digs q) ∧ Lib.decDigits M = dg q ++ s) ∧ Below W0.heap.size W0 wr
def RGrpI (M q : Nat) (sv rv kv : Value) : Prop := ∃ k r s, sv = strV s ∧ rv = .int .u64 (r : Nat) ∧ kv = .int .i64 (k : Nat) ∧ k ≤ 9 ∧ r < 1000000000 ∧ Kept (DgI M q k r s)
theorem r_text_C (w : World) (b : Bool) (A n c l) (wa : Wd w A n c l) (hn : n ≤ 1000000000) :
    Calls Tryz.prog 108 #[.agg #[.bool b, .slice A n c]] w (RetV w (strV (Lib.itoa (WD.z ⟨b, l⟩)))) := by
  have HL := Lib.hid wa.2.1
  have hcm : Canon (WD.m ⟨b, l⟩) := WD.canon_m wa.1
  obtain ⟨M, hM⟩ : ∃ M, WD.m ⟨b, l⟩ = digs M := ⟨_, (digs_val hcm).symm⟩
  have hab : (WD.z ⟨b, l⟩).natAbs = M := by rw [z_nat, hM, val_digs]
  obtain ⟨T, hT⟩ : ∃ T, T = Lib.itoa (WD.z ⟨b, l⟩) := ⟨_, rfl⟩
  rw [itoa_abs, hab] at hT
  rw [itoa_abs, hab, ← hT]
  have HT := Lib.hid hT
  have HM := Lib.hid hM
  have HA := Lib.hid hab
  clear hT hM hab hcm
  have b0 : Below w.heap.size w (w.alloc (.cells #[.bool b, .slice A n c] 77)) := (Below.refl _ _).alloc (Nat.le_refl _) _
  have x0 : Blk (w.alloc (.cells #[.bool b, .slice A n c] 77)) w.heap.size 77 #[.bool b, .slice A n c] := blkAt _ _ _ rfl
  by_cases hM0 : M = 0
  · subst hM0
    have hz : (WD.z ⟨b, l⟩) < 0 → False := by have := HA.out; omega
    have hT0 : T = [48] := by rw [HT.out, if_neg (fun h => hz h)]; exact Lib.decDigits_one (by omega)
    subst hT0
    go_enter Tryz.func108, Tryz.ntmps108
    go_wp2_with (go_at_call 101; (with_reducible refine (r_mag_c _ b A n c l ?_ ?_).mono ?_); (exact wa.belw b0); (omega); rintro e w1 ⟨A1, n1, c1, rfl, h1, hb1⟩; rw [HM.out, digs_zero] at h1; obtain rfl : n1 = 0 := h1.2.1)
    go_ret
    exact ⟨rfl, b0.trans (hb1.mono b0.size)⟩
  · have hMp : 0 < M := Nat.pos_of_ne_zero hM0
    have HMP := Lib.hid hMp
    clear hM0 hMp
    go_enter Tryz.func108, Tryz.ntmps108
    go_wp2_with (go_at_call 101; (with_reducible refine (r_mag_c _ b A n c l ?_ ?_).mono ?_); (exact wa.belw b0); (omega); rintro e w1 ⟨A1, n1, c1, rfl, h1, hb1⟩; have hn1 : n1 ≤ 1000000000 := h1.m_len (by rw [← HL.out]; exact hn); rw [HM.out] at h1; have e1 : ((n1 : Int) == 0) = false := (by have h9 : n1 ≠ 0 := (fun e => by have h8 := h1.2.1; rw [e] at h8; exact absurd (digs_eq_nil.1 (List.eq_nil_of_length_eq_zero h8.symm)) (by have := HMP.out; omega)); simp; exact h9))
    clear e1
    go_loopw [3, 4] (fun mv sv wr => RTextI M w1 wr mv sv) (fun mv _ wr => valOf wr mv)
    case atStart => exact ⟨A1, n1, c1, M, [], rfl, rfl, hn1, ⟨h1, by rw [dg_pos HMP.out]; simp⟩, brefl _⟩
    case round =>
      obtain ⟨wo, hwo⟩ : ∃ x, x = wr := ⟨_, rfl⟩
      subst hwo
      obtain ⟨A3, n3, c3, q, s, rfl, rfl, hn3, hK, rr⟩ := hrel
      have hm5 : valOf wo (.slice A3 n3 c3) = q := by rw [hK.1.valOf, val_digs]
      have hnd : Lib.nDigits M ≤ 10 * 1000000000 := nDig_words' hn1 (by omega) (by have := h1.vlt (Nat.le_refl _); rw [val_digs] at this; exact this)
      have hln := dg_len hK.2
      have x1 : Blk w1 w.heap.size 77 #[.bool b, .slice A n c] := x0.below hb1 (by simp)
      have x2 := x1.below rr x1.lt
      have bw := ((b0.trans (hb1.mono b0.size)).trans (rr.mono (by have := hb1.size; have := b0.size; omega)))
      by_cases hq0 : q = 0
      · subst hq0
        have h0 : n3 = 0 := by have := hK.1.2.1; rw [digs_zero] at this; exact this
        subst h0
        have hps : Lib.decDigits M = s := by have := hK.2; rw [dg_zero] at this; exact this
        have cx0 := x2.c2
        have HP := Lib.hid hps
        have HA2 := Lib.hid (show (WD.z ⟨b, l⟩) = sgn (WD.s ⟨b, l⟩) M by rw [WD.z_eq, HM.out, val_digs])
        have hsz : (⟨s.toArray⟩ : ByteArray).size ≤ 10000000000 := by show s.length ≤ _; omega
        clear hps x1 x2
        cases hs : WD.s ⟨b, l⟩
        · have HS := Lib.hid hs
          have HT2 := Lib.hid (show T = s by rw [HT.out, HP.out, HA2.out, hs, if_neg (by simp [sgn])]; rfl)
          clear hs
          go_wp2_with (go_at_call 102; (with_reducible refine (neg_r _ b A n c l false ?_ ?_ HS.out).mono ?_); (exact wa.belw bw); omega; rintro e w3 ⟨rfl, hb3⟩)
          go_ret
          exact ⟨by rw [HT2.out]; rfl, bw.trans (hb3.mono bw.size)⟩
        · have HS := Lib.hid hs
          have HT2 := Lib.hid (show T = 45 :: s by rw [HT.out, HP.out, HA2.out, hs, if_pos (by simp [sgn]; have := HMP.out; omega)]; rfl)
          clear hs
          go_wp2_with (go_at_call 102; (with_reducible refine (neg_r _ b A n c l true ?_ ?_ HS.out).mono ?_); (exact wa.belw bw); omega; rintro e w3 ⟨rfl, hb3⟩)
          go_ret
          refine ⟨?_, bw.trans (hb3.mono bw.size)⟩
          rw [HT2.out]
          exact congrArg (fun x => Ending.returned (.string x)) (cat_v [45] s)
      · have hqp : 0 < q := Nat.pos_of_ne_zero hq0
        have hn30 : n3 ≠ 0 := fun e => hq0 (digs_eq_nil.1 (List.eq_nil_of_length_eq_zero (by rw [← hK.1.2.1]; exact e)))
        have hn3p : 0 < n3 := by omega
        have HL3 := Lib.hid hK.1.2.1
        have HQP := Lib.hid hqp
        obtain ⟨lq, hlq⟩ : ∃ lq, digs q = lq := ⟨_, rfl⟩
        have HLQ := Lib.hid hlq
        have hvq : val lq = q := by rw [← hlq, val_digs]
        have HVQ := Lib.hid hvq
        have hw3 := hK.1
        rw [hlq] at hw3 HL3
        clear hq0 hqp hn30 hlq hvq x1
        go_wp2_with (at_make; refine wpList_make_words _ rfl _ _ rfl _ _ _ _ n3 rfl rfl (by omega) (by omega) (by omega) ?_)
        go_loopw [5, 7] (fun rv iv wx => ∃ (k r : Nat) (L : List Nat), k ≤ n3 ∧ iv = .int .i64 ((k : Int) - 1) ∧ rv = .int .u64 (r : Nat) ∧ r < 1000000000 ∧ L.length = n3 ∧ ShortI lq L 1000000000 k r ∧ Blk wx wo.heap.size 100 (cellsOf L) ∧ Below wo.heap.size wo wx) (fun _ iv _ => (intOf iv + 1).toNat)
        case atStart => exact ⟨n3, 0, List.replicate n3 0, Nat.le_refl _, rfl, rfl, by omega, by simp, ⟨by intro x hx; rw [List.eq_of_mem_replicate hx]; omega, by omega, by rw [HL3.out]; simp [val]⟩, Blk.new _ _ _, (Below.refl _ _).alloc (Nat.le_refl _) _⟩
        case round =>
          obtain ⟨k, r, L, hk, rfl, rfl, hr, hLM, hI, hB, hbel⟩ := hrel
          have HI := Lib.hid hI
          have HB := Lib.hid hB
          have HLM := Lib.hid hLM
          clear hI hB hLM
          by_cases hk0 : k = 0
          · subst hk0
            have h1' := HI.out.2.2
            simp only [List.drop_zero] at h1'
            have hq' : val lq / 1000000000 = val L := by
              rw [h1', Nat.mul_add_div (by omega), Nat.div_eq_of_lt HI.out.2.1, Nat.add_zero]
            have hm' : val lq % 1000000000 = r := by rw [h1']; rw [Nat.mul_add_mod]; exact Nat.mod_eq_of_lt HI.out.2.1
            rw [HVQ.out] at hq' hm'
            have hst := DgI.start hK.2
            rw [hm', hq'] at hst
            obtain ⟨q', hqq⟩ : ∃ q', val L = q' := ⟨_, rfl⟩
            rw [hqq] at hst hq'
            have HQ := Lib.hid (And.intro hq' hm')
            have HQQ := Lib.hid hqq
            have HST := Lib.hid hst
            clear hq' hm' h1' hqq hst
            go_wp2_with (go_at_call 135; (with_reducible refine (r_trim_c _ _ n3 n3 L ?_ ?_).mono ?_); (exact HB.out.wdN HI.out.1 HLM.out); omega; rintro e w4 ⟨A4, n4, c4, rfl, h4, hb4⟩; rw [HQQ.out] at h4)
            have hn4 : n4 ≤ 1000000000 := by
              rw [h4.2.1]
              exact Nat.le_trans (length_digs_le (Nat.lt_of_le_of_lt (by rw [← HQ.out.1]; exact Nat.div_le_self _ _) (by have := hK.1.vlt (Nat.le_refl _); rw [val_digs] at this; exact this))) hn3
            have H4 := Lib.hid h4
            have HLT := Lib.hid (show q' < q by rw [← HQ.out.1]; exact Nat.div_lt_self HQP.out (by omega))
            have hb5 : Below wo.heap.size wo w4 := hbel.trans (hb4.mono hbel.size)
            clear h4
            go_loop [4, 5, 8] (fun sv rv kv => RGrpI M q' sv rv kv) (fun _ _ kv => 9 - (intOf kv).toNat)
            case atStart => exact ⟨0, r, s, rfl, rfl, rfl, by omega, hr, HST.out⟩
            case round =>
              obtain ⟨j, r1, s1, rfl, rfl, rfl, hj, hr1, hG⟩ := hrel
              have hl1 := hG.len
              have hsz : (⟨s1.toArray⟩ : ByteArray).size ≤ 10000000000 := by show s1.length ≤ _; omega
              by_cases hj9 : j = 9
              · subst hj9
                go_wp2
                go_roundw
                case rel => exact ⟨A4, n4, c4, q', s1, rfl, rfl, hn4, ⟨H4.out, hG.done9⟩, rr.trans (hb5.mono rr.size)⟩
                case measure => rw [H4.out.valOf, hm5, val_digs]; exact HLT.out
              · have hj8 : j < 9 := by omega
                obtain ⟨d, hd⟩ : ∃ d, r1 % 10 = d := ⟨_, rfl⟩
                obtain ⟨r2, hr2⟩ : ∃ r2, r1 / 10 = r2 := ⟨_, rfl⟩
                have hd10 : d < 10 := by omega
                have e1 : (r1 : Int) % 10 = (d : Int) := by omega
                have e2 : (r1 : Int) / 10 = (r2 : Int) := by omega
                have e4 : (⟨#[48, 49, 50, 51, 52, 53, 54, 55, 56, 57]⟩ : ByteArray).extract d (d + 1) = ⟨[dch d].toArray⟩ := digit_cut hd10
                have HD := Lib.hid (And.intro hd hr2)
                clear hd hr2 hj9
                by_cases h0 : 0 < r1
                · have HG := Lib.hid (hG.step hj8 (.inl h0))
                  rw [HD.out.1, HD.out.2] at HG
                  clear hG
                  go_wp2
                  go_round
                  case rel => exact ⟨j + 1, r2, _, rfl, rfl, by go_num, by omega, by have := HD.out.2; omega, HG.out⟩
                  case measure => simp [intOf]; omega
                · by_cases h1 : q' = 0
                  · subst h1
                    have hn40 : n4 = 0 := by have := H4.out.2.1; rw [digs_zero] at this; exact this
                    subst hn40
                    go_wp2
                    go_roundw
                    case rel => exact ⟨A4, 0, c4, 0, s1, rfl, rfl, by omega, ⟨H4.out, dgI_done0 hG h0⟩, rr.trans (hb5.mono rr.size)⟩
                    case measure => rw [H4.out.valOf, hm5, val_digs]; exact HLT.out
                  · have hn4p : 0 < n4 := Nat.pos_of_ne_zero fun e => h1 (digs_eq_nil.1 (List.eq_nil_of_length_eq_zero (by rw [← H4.out.2.1]; exact e)))
                    have HG := Lib.hid (hG.step hj8 (.inr (Nat.pos_of_ne_zero h1)))
                    rw [HD.out.1, HD.out.2] at HG
                    clear hG h1
                    go_wp2
                    go_round
                    case rel => exact ⟨j + 1, r2, _, rfl, rfl, by go_num, by omega, by have := HD.out.2; omega, HG.out⟩
                    case measure => simp [intOf]; omega
          · obtain ⟨g, o, rfl, hgl, hc1⟩ := (hw3.keep ((Kp.refl wo).below hbel)).at2 hn3p
            have hcx := hc1 (k - 1) (by omega)
            obtain ⟨x, hx⟩ : ∃ x, wd lq (k - 1) = x := ⟨_, rfl⟩
            have hx1 : x < 4294967296 := by rw [← hx]; exact hw3.lt _
            rw [hx] at hcx
            have HX := Lib.hid hx
            have hck := HB.out.cell (k - 1)
            rw [cellsOf_get (by rw [HLM.out]; omega)] at hck
            have hfk := HB.out.frozen (k - 1)
            have hkp : 0 < k := by omega
            obtain ⟨sx, hs⟩ : ∃ s : Nat, s = r * 4294967296 + x := ⟨_, rfl⟩
            have e1 : bits .or .u64 ((r : Int) * 4294967296) (x : Int) = (sx : Int) := by rw [hs]; exact join_word (by omega) hx1
            have HS := Lib.hid hs
            have hsb : sx / 1000000000 < 4294967296 := by rw [hs]; omega
            obtain ⟨t, ht⟩ : ∃ t : Nat, sx / 1000000000 = t := ⟨_, rfl⟩
            obtain ⟨r2, hr2⟩ : ∃ r2, sx % 1000000000 = r2 := ⟨_, rfl⟩
            rw [ht] at hsb
            have e2 : (sx : Int) / 1000000000 = (t : Int) := by omega
            have e3 : (sx : Int) % 1000000000 = (r2 : Int) := by omega
            have hsx : sx < 18446744073709551616 := by omega
            have hr3 : r2 < 1000000000 := by omega
            have HT := Lib.hid (And.intro ht hr2)
            clear hx hc1 hk0 hs ht hr2
            go_wp2
            clear e1 e2 e3
            go_roundw
            case rel =>
              refine ⟨k - 1, r2, L.set (k - 1) t, by omega, by go_num, by congr 1; have := HT.out.2; omega, hr3, by rw [List.length_set]; exact HLM.out, ⟨wds_set HI.out.1 _ hsb, hr3, ?_⟩, ?_, hbel.setCell (Nat.le_refl _) _⟩
              · rw [val_drop lq (by rw [← HL3.out]; omega), val_drop (L.set (k - 1) t) (by rw [List.length_set, HLM.out]; omega), drop_set_succ, show k - 1 + 1 = k by omega, HX.out, wd_set, if_pos ⟨rfl, by rw [HLM.out]; omega⟩, ← HT.out.1, ← HT.out.2, HS.out]
                exact short_step HI.out.2.2
              · exact HB.out.setW (k - 1) _ _ (by omega)
            case measure => simp [intOf]; omega
end Go.Proofs.YtianjkiakkclgaaGreatDoor

/- Texts of integers by their values; errors as numbers. -/
namespace Go.Proofs.YtianjkiakkclgaaGreatDoor
open Go Go.RowKit Bn
attribute [local go_sem ↓] Go.wp_at_zero Go.wp_at_succ

theorem b_num_nil (w : World) : Calls Tryz.prog 13 #[.nilIface] w (RetV w (.int .i64 0)) := by
 go_enter Tryz.func13, Tryz.ntmps13
 go_wp2
 go_ret
 exact ⟨rfl, brefl w⟩
theorem run_as_err (x : Int) (w : World) : (Instr.typeAssert (.iface 57 (.int .i64 x)) 30 57 true).run Tryz.prog w = .ok (.tuple #[.int .i64 x, .bool true]) w := by
  simp [Instr.typeAssert, run_underlying Tryz.underlying57]
theorem b_num_err (w : World) (x : Int) : Calls Tryz.prog 13 #[.iface 57 (.int .i64 x)] w (RetV w (.int .i64 x)) := by
 go_enter Tryz.func13, Tryz.ntmps13
 have hr := run_as_err x
 go_wp2
 go_ret
 exact ⟨rfl, brefl w⟩
theorem r01_text_l (w : World) (b A n c z k) (h : IZ w b A n c z k) (T : List UInt8) (hk : k ≤ 1000000000) (hT : Lib.itoa z = T) : Calls Tryz.prog 108 #[.agg #[.bool b, .slice A n c]] w (RetV w (strV T)) := by
  subst hT
  obtain ⟨l, h1, rfl, h3⟩ := h
  exact r_text_C w b A n c l h1 (by omega)
end Go.Proofs.YtianjkiakkclgaaGreatDoor

/- Walks: fractions: Root, Grid. -/
namespace Go.Proofs.YtianjkiakkclgaaGreatDoor
open Go Go.RowKit Bn
attribute [local go_sem ↓] Go.wp_at_zero Go.wp_at_succ
theorem IV.resz {w : World} {b : Bool} {A : Option Addr} {n c : Nat} {z : Int} {k K : Nat} (h : IV w b A n c z k) (hs : z.natAbs < 4294967296 ^ K) : IV w b A n c z K := IV.mk_ h.2.1 h.1 hs
theorem QV.resz {w : World} {b : Bool} {A : Option Addr} {n c : Nat} {D : Option Addr} {m e : Nat} {q : Rat} {k K : Nat} (h : QV w b A n c D m e q k) (hs : Sz q K) : QV w b A n c D m e q K := QV.mk_ h.2.1 h.2.2.1 h.1 hs
theorem RetFe.resz {w : World} {v : Value} {q : Rat} {k K : Nat} {e : Ending} {w' : World} (h : RetFe w v q k e w') (hs : Sz q K) : RetFe w v q K e w' := by
  obtain ⟨b, A, n, c, D, m, d, rfl, h, hb⟩ := h
  exact ⟨b, A, n, c, D, m, d, rfl, h.resz hs, hb⟩
theorem i_cmp_v2 (w : World) (b A n c z k) (h : IZ w b A n c z k) (b' A' n' c' z' k') (h' : IZ w b' A' n' c' z' k') (v : Int) (hv : cmpI z z' = v) (hk : k + k' ≤ 999999999) : Calls Tryz.prog 49 #[.agg #[.bool b, .slice A n c], .agg #[.bool b', .slice A' n' c']] w (RetV w (.int .i64 v)) := by
  subst hv; exact i_cmp w b A n c z k h b' A' n' c' z' k' h' (by omega)
end Go.Proofs.YtianjkiakkclgaaGreatDoor

/- Texts read as numbers: what the library's functions give on digits. Plain. -/
namespace Bn
open Go.Lib
theorem digitVal_dg {c : UInt8} (h : isDg c = true) : digitVal c = some (dval c) := by
  unfold isDg at h
  rw [Bool.and_eq_true, decide_eq_true_eq, decide_eq_true_eq] at h
  unfold digitVal dval
  rw [if_pos h]
theorem decFrom_dg : ∀ {l : List UInt8}, l.all isDg = true → ∀ acc, decFrom acc l = some (l.foldl (fun a c => a * 10 + dval c) acc) := by
  intro l
  induction l with
  | nil => intro _ acc; rfl
  | cons x r ih =>
    intro h acc
    rw [List.all_cons, Bool.and_eq_true] at h
    rw [decFrom, digitVal_dg h.1, List.foldl_cons]
    exact ih h.2 _
theorem atoi_dec {l : List UInt8} (h : l.all isDg = true) (h0 : l ≠ []) : atoi l = some (decVal l : Int) := by
  cases l with
  | nil => exact absurd rfl h0
  | cons x r =>
    have hx : isDg x = true := by rw [List.all_cons, Bool.and_eq_true] at h; exact h.1
    have h1 : (x == 45) = false := by
      apply Bool.eq_false_iff.2
      intro e
      rw [beq_iff_eq] at e
      subst e
      exact absurd hx (by decide)
    have h2 : (x == 43) = false := by
      apply Bool.eq_false_iff.2
      intro e
      rw [beq_iff_eq] at e
      subst e
      exact absurd hx (by decide)
    unfold atoi
    dsimp only
    rw [h1, h2]
    simp only [Bool.false_eq_true, if_false]
    unfold decNat
    rw [if_neg (by simp), decFrom_dg h]
    rfl
def digs10 : List UInt8 := [48, 49, 50, 51, 52, 53, 54, 55, 56, 57]
theorem contains_dg (c : UInt8) : digs10.contains c = isDg c := by
  have h : ∀ v : Fin 256, digs10.contains (UInt8.ofNat v) = isDg (UInt8.ofNat v) := by decide +kernel
  have := h ⟨c.toNat, c.toNat_lt⟩
  simpa using this
theorem dropWhile_nil {p : UInt8 → Bool} : ∀ {l : List UInt8}, l.dropWhile p = [] ↔ l.all p = true := by
  intro l
  induction l with
  | nil => simp
  | cons x r ih =>
    by_cases h : p x = true
    · rw [List.dropWhile_cons_of_pos h, ih, List.all_cons, h]; simp
    · rw [List.dropWhile_cons_of_neg h]; simp [h]
theorem dropWhile_head {p : UInt8 → Bool} : ∀ {l : List UInt8} {x : UInt8} {r : List UInt8}, l.dropWhile p = x :: r → p x = false := by
  intro l
  induction l with
  | nil => intro x r h; simp at h
  | cons y s ih =>
    intro x r h
    by_cases hy : p y = true
    · rw [List.dropWhile_cons_of_pos hy] at h; exact ih h
    · rw [List.dropWhile_cons_of_neg hy] at h
      injection h with h1 h2
      subst h1
      simpa using hy
theorem trim_dg {l : List UInt8} : trimS l digs10 = [] ↔ l.all isDg = true := by
  have hp : (fun b => digs10.contains b) = isDg := funext contains_dg
  unfold trimS trimLeftS trimRightS
  rw [hp]
  rw [dropWhile_nil, List.all_reverse]
  constructor
  · intro h
    cases hd : l.reverse.dropWhile isDg with
    | nil => have := dropWhile_nil.1 hd; rw [List.all_reverse] at this; exact this
    | cons x r =>
      rw [hd, List.all_cons, Bool.and_eq_true] at h
      rw [dropWhile_head hd] at h
      exact absurd h.1 (by simp)
  · intro h
    rw [dropWhile_nil.2 (by rw [List.all_reverse]; exact h)]
    rfl
theorem hasPrefix_m (l : List UInt8) : hasPrefix l [45] = headM l := by
  unfold hasPrefix headM
  cases l with
  | nil => rfl
  | cons x r =>
    by_cases h : x = 45
    · subst h; rfl
    · have e : (45 == x) = false := by simp; exact fun e => h e.symm
      simp only [List.isPrefixOf, e, Bool.false_and]
      split
      · rename_i h1; injection h1 with h2; exact absurd h2 h
      · rfl
theorem trimPrefix_m (l : List UInt8) : trimPrefix l [45] = tailS l := by
  unfold trimPrefix
  rw [hasPrefix_m]
  unfold headM tailS
  split
  · rename_i r
    rfl
  · rfl
theorem tailS_len (l : List UInt8) : (tailS l).length ≤ l.length := by
  unfold tailS; split <;> simp
theorem len_ten (k : Nat) : 10 ^ k ≤ 4294967296 ^ k := Nat.pow_le_pow_left (by omega) k
theorem decVal_words {l : List UInt8} (h : l.all isDg = true) : decVal l < 4294967296 ^ l.length := Nat.lt_of_lt_of_le (decVal_lt h) (len_ten _)
theorem all_take {l : List UInt8} {p : UInt8 → Bool} (h : l.all p = true) (k : Nat) : (l.take k).all p = true := by
  rw [List.all_eq_true] at h ⊢
  exact fun x hx => h x (List.mem_of_mem_take hx)
theorem all_drop {l : List UInt8} {p : UInt8 → Bool} (h : l.all p = true) (k : Nat) : (l.drop k).all p = true := by
  rw [List.all_eq_true] at h ⊢
  exact fun x hx => h x (List.mem_of_mem_drop hx)
def GrpI (t pre rest : List UInt8) : Prop := t = pre ++ rest ∧ (pre = [] ∨ rest.length % 9 = 0)
theorem GrpI.step {t pre rest : List UInt8} {n : Nat} (h : GrpI t pre rest) (h0 : 0 < rest.length) (hn : (rest.length - 1) % 9 + 1 = n) :
    n ≤ rest.length ∧ n ≤ 9 ∧ 0 < n ∧ GrpI t (pre ++ rest.take n) (rest.drop n) ∧ decVal (pre ++ rest.take n) = decVal pre * 1000000000 + decVal (rest.take n) := by
  have h1 : n ≤ rest.length := by have := Nat.mod_le (rest.length - 1) 9; omega
  refine ⟨h1, by have := Nat.mod_lt (rest.length - 1) (show 0 < 9 by omega); omega, by omega, ⟨?_, ?_⟩, ?_⟩
  · rw [List.append_assoc, List.take_append_drop]; exact h.1
  · right; rw [List.length_drop]; omega
  · rw [decVal_app, List.length_take, Nat.min_eq_left h1]
    rcases h.2 with e | e
    · subst e; simp [decVal]
    · have : n = 9 := by omega
      subst this; rfl
theorem GrpI.start (t : List UInt8) : GrpI t [] t := ⟨rfl, .inl rfl⟩
theorem GrpI.fin {t pre : List UInt8} (h : GrpI t pre []) : pre = t := by have := h.1; rw [List.append_nil] at this; exact this.symm
theorem okZ_parts {l : List UInt8} (h : okZ l = true) : tailS l ≠ [] ∧ (tailS l).all isDg = true ∧ ¬ ((tailS l).head? = some 48 ∧ (1 < (tailS l).length ∨ headM l = true)) := by
  unfold okZ at h
  simp at h
  refine ⟨h.1.1, by simpa using h.1.2, fun ⟨a, b⟩ => ?_⟩
  rcases h.2 with e | e
  · exact e a
  · rcases b with b | b
    · omega
    · rw [b] at e; exact absurd e.2 (by simp)
theorem okZ_not {l : List UInt8} (h : okZ l = false) : tailS l = [] ∨ (tailS l ≠ [] ∧ (tailS l).all isDg = false) ∨ (tailS l ≠ [] ∧ (tailS l).all isDg = true ∧ (tailS l).head? = some 48 ∧ (1 < (tailS l).length ∨ headM l = true)) := by
  by_cases h0 : tailS l = []
  · exact .inl h0
  · right
    cases h1 : (tailS l).all isDg
    · exact .inl ⟨h0, rfl⟩
    · refine .inr ⟨h0, rfl, ?_⟩
      unfold okZ at h
      rw [h1] at h
      simp [h0] at h
      refine ⟨h.1, ?_⟩
      by_cases h2 : 1 < (tailS l).length
      · exact .inl h2
      · exact .inr (h.2 (by omega))
end Bn

/- Texts of fractions: what reading one gives. Plain. -/
namespace Bn
open Go.Lib
def decOk (F B : List UInt8) : Bool := okZ (tailS F) && decide (0 ≤ valZ (tailS F)) && decide (B ≠ []) && B.all isDg
def decN (F B : List UInt8) : Int := valZ (tailS F) * 10 ^ B.length + decVal B
def decQ (F B : List UInt8) : Rat := Rat.divInt (if headM F then -(decN F B) else decN F B) (10 ^ B.length)
def quoOk (F B : List UInt8) : Bool := okZ F && okZ B && decide (0 < valZ B) && decide (valZ B ≠ 1) && decide (Nat.gcd (valZ F).natAbs (valZ B).natAbs = 1)
inductive FracOut (s : List UInt8) (x : Int) (q : Rat) : Prop
  | big (h : 65536 < s.length) (hx : x = 4) (hq : q = 0)
  | dot (F B : List UInt8) (hl : s.length ≤ 65536) (hs : s = F ++ 46 :: B) (hF : 46 ∉ F) (h64 : s.length ≤ 64) (h : decOk F B = true) (hx : x = 0) (hq : q = decQ F B)
  | dotNo (F B : List UInt8) (hl : s.length ≤ 65536) (hs : s = F ++ 46 :: B) (hF : 46 ∉ F) (h : 64 < s.length ∨ decOk F B = false) (hx : x = 2) (hq : q = 0)
  | quo (F B : List UInt8) (hl : s.length ≤ 65536) (hd : 46 ∉ s) (hs : s = F ++ 47 :: B) (hF : 47 ∉ F) (h : quoOk F B = true) (hx : x = 0) (hq : q = Rat.divInt (valZ F) (valZ B))
  | quoNo (F B : List UInt8) (hl : s.length ≤ 65536) (hd : 46 ∉ s) (hs : s = F ++ 47 :: B) (hF : 47 ∉ F) (h : quoOk F B = false) (hx : x = 2) (hq : q = 0)
  | whole (hl : s.length ≤ 65536) (hd : 46 ∉ s) (hs : 47 ∉ s) (h : okZ s = true) (hx : x = 0) (hq : q = ((valZ s : Int) : Rat))
  | wholeNo (hl : s.length ≤ 65536) (hd : 46 ∉ s) (hs : 47 ∉ s) (h : okZ s = false) (hx : x = 2) (hq : q = 0)
theorem fracOut (s : List UInt8) : ∃ x q, FracOut s x q := by
  by_cases h : 65536 < s.length
  · exact ⟨4, 0, .big h rfl rfl⟩
  · have hl : s.length ≤ 65536 := by omega
    rcases split_at 46 s with hd | ⟨F, B, hs, hF⟩
    · rcases split_at 47 s with he | ⟨F, B, hs, hF⟩
      · cases hb : okZ s
        · exact ⟨2, 0, .wholeNo hl hd he hb rfl rfl⟩
        · exact ⟨0, _, .whole hl hd he hb rfl rfl⟩
      · cases hb : quoOk F B
        · exact ⟨2, 0, .quoNo F B hl hd hs hF hb rfl rfl⟩
        · exact ⟨0, _, .quo F B hl hd hs hF hb rfl rfl⟩
    · by_cases h64 : s.length ≤ 64
      · cases hb : decOk F B
        · exact ⟨2, 0, .dotNo F B hl hs hF (.inr hb) rfl rfl⟩
        · exact ⟨0, _, .dot F B hl hs hF h64 hb rfl rfl⟩
      · exact ⟨2, 0, .dotNo F B hl hs hF (.inl (by omega)) rfl rfl⟩
theorem decOk_parts {F B : List UInt8} (h : decOk F B = true) : okZ (tailS F) = true ∧ 0 ≤ valZ (tailS F) ∧ B ≠ [] ∧ B.all isDg = true := by
  unfold decOk at h
  rw [Bool.and_eq_true, Bool.and_eq_true, Bool.and_eq_true, decide_eq_true_eq, decide_eq_true_eq] at h
  exact ⟨h.1.1.1, h.1.1.2, h.1.2, h.2⟩
theorem decOk_not {F B : List UInt8} (h : decOk F B = false) : okZ (tailS F) = false ∨ (okZ (tailS F) = true ∧ valZ (tailS F) < 0) ∨ (okZ (tailS F) = true ∧ 0 ≤ valZ (tailS F) ∧ B = []) ∨ (okZ (tailS F) = true ∧ 0 ≤ valZ (tailS F) ∧ B ≠ [] ∧ B.all isDg = false) := by
  cases h1 : okZ (tailS F)
  · exact .inl rfl
  · right
    by_cases h2 : 0 ≤ valZ (tailS F)
    · right
      by_cases h3 : B = []
      · exact .inl ⟨rfl, h2, h3⟩
      · right
        cases h4 : B.all isDg
        · exact ⟨rfl, h2, h3, rfl⟩
        · exfalso
          unfold decOk at h
          rw [h1, h4] at h
          simp [h2, h3] at h
    · exact .inl ⟨rfl, by omega⟩
theorem quoOk_parts {F B : List UInt8} (h : quoOk F B = true) : okZ F = true ∧ okZ B = true ∧ 0 < valZ B ∧ valZ B ≠ 1 ∧ Nat.gcd (valZ F).natAbs (valZ B).natAbs = 1 := by
  unfold quoOk at h
  rw [Bool.and_eq_true, Bool.and_eq_true, Bool.and_eq_true, Bool.and_eq_true, decide_eq_true_eq, decide_eq_true_eq, decide_eq_true_eq] at h
  exact ⟨h.1.1.1.1, h.1.1.1.2, h.1.1.2, h.1.2, h.2⟩
theorem quoOk_not {F B : List UInt8} (h : quoOk F B = false) : okZ F = false ∨ (okZ F = true ∧ okZ B = false) ∨ (okZ F = true ∧ okZ B = true ∧ valZ B ≤ 0) ∨ (okZ F = true ∧ okZ B = true ∧ 0 < valZ B ∧ valZ B = 1) ∨ (okZ F = true ∧ okZ B = true ∧ 0 < valZ B ∧ valZ B ≠ 1 ∧ Nat.gcd (valZ F).natAbs (valZ B).natAbs ≠ 1) := by
  cases h1 : okZ F
  · exact .inl rfl
  · right
    cases h2 : okZ B
    · exact .inl ⟨rfl, rfl⟩
    · right
      by_cases h3 : valZ B ≤ 0
      · exact .inl ⟨rfl, rfl, h3⟩
      · right
        by_cases h4 : valZ B = 1
        · exact .inl ⟨rfl, rfl, by omega, h4⟩
        · refine .inr ⟨rfl, rfl, by omega, h4, fun h5 => ?_⟩
          unfold quoOk at h
          rw [h1, h2] at h
          simp [h4, h5] at h
          omega
end Bn

/- Walks: integer.Parse. -/
namespace Go.Proofs.YtianjkiakkclgaaGreatDoor
open Go Go.RowKit Bn
attribute [local go_sem ↓] Go.wp_at_zero Go.wp_at_succ

theorem toList_v (l : List UInt8) : (⟨l.toArray⟩ : ByteArray).toList = l := by rw [Lib.toList_data]
theorem size_v (l : List UInt8) : (⟨l.toArray⟩ : ByteArray).size = l.length := rfl
theorem ext_v (l : List UInt8) (a b : Nat) : (⟨l.toArray⟩ : ByteArray).extract a b = ⟨((l.drop a).take (b - a)).toArray⟩ := by
  apply ByteArray.ext
  rw [ByteArray.data_extract]
  simp
theorem prefix_v (w : World) (l : List UInt8) (m : Bool) (hm : headM l = m) : Calls Tryz.prog 90 #[strV l, .string ⟨#[45]⟩] w (RetV w (.bool m)) := by
  subst hm
  refine (Tryz.strings_HasPrefix ⟨l.toArray⟩ ⟨#[45]⟩ w).mono fun e w' ⟨he, hw⟩ => ⟨?_, hw ▸ brefl _⟩
  rw [he]
  exact congrArg (fun x => Ending.returned (.bool x)) (hasPrefix_m l)
theorem tprefix_v (w : World) (l t : List UInt8) (ht : tailS l = t) : Calls Tryz.prog 91 #[strV l, .string ⟨#[45]⟩] w (RetV w (strV t)) := by
  subst ht
  refine (Tryz.strings_TrimPrefix ⟨l.toArray⟩ ⟨#[45]⟩ w).mono fun e w' ⟨he, hw⟩ => ⟨?_, hw ▸ brefl _⟩
  rw [he]
  exact congrArg (fun x : List UInt8 => Ending.returned (strV x)) (trimPrefix_m l)
theorem trim_v (w : World) (t x : List UInt8) (hn : t.length ≤ 1000000) (hx : Lib.trimS t digs10 = x) : Calls Tryz.prog 92 #[strV t, .string ⟨#[48, 49, 50, 51, 52, 53, 54, 55, 56, 57]⟩] w (RetV w (strV x)) := by
  subst hx
  exact Any.strings_Trim_laid Tryz.lays160 (by kernel_rfl) ⟨t.toArray⟩ ⟨#[48, 49, 50, 51, 52, 53, 54, 55, 56, 57]⟩ w (by show t.length ≤ _; omega) (by decide) (ascii_of_all (by decide))
theorem atoi_v (w : World) (t : List UInt8) (x : Nat) (hn : t.length ≤ 9) (h0 : t ≠ []) (ha : t.all isDg = true) (hx : decVal t = x) : Calls Tryz.prog 93 #[strV t] w (RetV w (.tuple #[.int .i64 (x : Nat), .nilIface])) := by
  subst hx
  refine (Tryz.strconv_Atoi ⟨t.toArray⟩ (decVal t : Nat) (by show t.length ≤ 18; omega) (atoi_dec ha h0) w).mono fun e w' ⟨he, t, hw⟩ => ⟨he, ?_⟩
  rw [hw]
  exact ⟨rfl, rfl, rfl, by rw [Lib.bytesWorld_size]; omega, fun j hj => Lib.bytesWorld_at_old _ _ _ j hj⟩
theorem i_parse_big (w : World) (l : List UInt8) (hl : 65536 < l.length) :
  Calls Tryz.prog 60 #[strV l] w (RetIe w (.iface 57 (.int .i64 4)) 0 0) := by
 have hsz := size_v l
 go_enter Tryz.func60, Tryz.ntmps60
 go_wp2
 refine bodyPost_ret (v := .tuple #[.agg #[.bool false, .slice none 0 0], .iface 57 (.int .i64 4)]) (by simp [results, Tryz.results60, go_sem, *] <;> trivial) rfl ?_
 exact ⟨_, _, _, _, rfl, IV.zero _ _, ((brefl w).alloc (Nat.le_refl _) _)⟩
theorem i_parse_bad (w : World) (l : List UInt8) (hl : l.length ≤ 65536) (hb : okZ l = false) :
  Calls Tryz.prog 60 #[strV l] w (RetIe w (.iface 57 (.int .i64 2)) 0 0) := by
 have hsz := size_v l
 have htl := tailS_len l
 obtain ⟨m, hm⟩ : ∃ m, headM l = m := ⟨_, rfl⟩
 obtain ⟨t, ht⟩ : ∃ t, tailS l = t := ⟨_, rfl⟩
 have hn := okZ_not hb
 rw [hm, ht] at hn
 rw [ht] at htl
 have HM := Lib.hid (And.intro hm ht)
 have b0 : Below w.heap.size w (w.alloc (.cells #[.bool false, .slice none 0 0] 77)) := (brefl w).alloc (Nat.le_refl _) _
 have x0 : Blk (w.alloc (.cells #[.bool false, .slice none 0 0] 77)) w.heap.size 77 #[.bool false, .slice none 0 0] := blkAt _ _ _ rfl
 clear hb hm ht
 rcases hn with h | ⟨h0, h1⟩ | ⟨h0, h1, h2, h3⟩
 ·subst h
  have htl0 := toList_v []
  go_enter Tryz.func60, Tryz.ntmps60
  go_wp2_with (first
   | (go_at_call 90; (with_reducible refine (prefix_v _ l _ HM.out.1).mono ?_); rintro e w1 ⟨rfl, hb1⟩; have b1 := b0.trans (hb1.mono b0.size); have x1 := x0.below hb1 x0.lt)
   | (go_at_call 91; (with_reducible refine (tprefix_v _ l _ HM.out.2).mono ?_); rintro e w2 ⟨rfl, hb2⟩; have b2 := b1.trans (hb2.mono b1.size); have x2 := x1.below hb2 x1.lt; obtain ⟨c0, c1⟩ := x2.c2; obtain ⟨f0, f1⟩ := x2.f2))
  refine bodyPost_ret (v := .tuple #[.agg #[.bool false, .slice none 0 0], .iface 57 (.int .i64 2)]) (by simp [results, Tryz.results60, go_sem, *] <;> trivial) rfl ?_
  exact ⟨_, _, _, _, rfl, IV.zero _ _, (b2.setCell (by dsimp only; omega) _).setCell (by dsimp only; omega) _⟩
 ·obtain ⟨c, r, rfl⟩ := List.exists_cons_of_ne_nil h0
  have htl0 := toList_v (c :: r)
  obtain ⟨x, hx⟩ : ∃ x, Lib.trimS (c :: r) digs10 = x := ⟨_, rfl⟩
  have hx0 : x ≠ [] := fun e => by rw [e] at hx; have := trim_dg.1 hx; rw [h1] at this; exact absurd this (by simp)
  obtain ⟨y, ys, rfl⟩ := List.exists_cons_of_ne_nil hx0
  have htl1 := toList_v (y :: ys)
  have HX := Lib.hid hx
  have HTL := Lib.hid (show (c :: r).length ≤ 1000000 by omega)
  clear hx hx0 h0 h1
  go_enter Tryz.func60, Tryz.ntmps60
  go_wp2_with (first
   | (go_at_call 90; (with_reducible refine (prefix_v _ l _ HM.out.1).mono ?_); rintro e w1 ⟨rfl, hb1⟩; have b1 := b0.trans (hb1.mono b0.size); have x1 := x0.below hb1 x0.lt)
   | (go_at_call 91; (with_reducible refine (tprefix_v _ l _ HM.out.2).mono ?_); rintro e w2 ⟨rfl, hb2⟩; have b2 := b1.trans (hb2.mono b1.size); have x2 := x1.below hb2 x1.lt)
   | (go_at_call 92; (with_reducible refine (trim_v _ _ (y :: ys) ?_ HX.out).mono ?_); (exact HTL.out); rintro e w3 ⟨rfl, hb3⟩; have b3 := b2.trans (hb3.mono b2.size); have x3 := x2.below hb3 x2.lt; obtain ⟨c0, c1⟩ := x3.c2; obtain ⟨f0, f1⟩ := x3.f2))
  refine bodyPost_ret (v := .tuple #[.agg #[.bool false, .slice none 0 0], .iface 57 (.int .i64 2)]) (by simp [results, Tryz.results60, go_sem, *] <;> trivial) rfl ?_
  exact ⟨_, _, _, _, rfl, IV.zero _ _, (b3.setCell (by dsimp only; omega) _).setCell (by dsimp only; omega) _⟩
 ·obtain ⟨c, r, rfl⟩ := List.exists_cons_of_ne_nil h0
  have hc : c = 48 := by simpa using h2
  subst hc
  have htl0 := toList_v (48 :: r)
  have htl1 := toList_v []
  have hsz0 := size_v (48 :: r)
  have HX := Lib.hid (trim_dg.2 h1)
  have HTL := Lib.hid (show (48 :: r : List UInt8).length ≤ 1000000 by omega)
  clear h0 h1 h2
  by_cases hr : r = []
  ·subst hr
   have hm : m = true := by
    rcases h3 with h | h
    ·exact absurd h (by simp)
    ·exact h
   subst hm
   clear h3
   go_enter Tryz.func60, Tryz.ntmps60
   go_wp2_with (first
    | (go_at_call 90; (with_reducible refine (prefix_v _ l _ HM.out.1).mono ?_); rintro e w1 ⟨rfl, hb1⟩; have b1 := b0.trans (hb1.mono b0.size); have x1 := x0.below hb1 x0.lt)
    | (go_at_call 91; (with_reducible refine (tprefix_v _ l _ HM.out.2).mono ?_); rintro e w2 ⟨rfl, hb2⟩; have b2 := b1.trans (hb2.mono b1.size); have x2 := x1.below hb2 x1.lt)
    | (go_at_call 92; (with_reducible refine (trim_v _ _ [] ?_ HX.out).mono ?_); (exact HTL.out); rintro e w3 ⟨rfl, hb3⟩; have b3 := b2.trans (hb3.mono b2.size); have x3 := x2.below hb3 x2.lt; obtain ⟨c0, c1⟩ := x3.c2; obtain ⟨f0, f1⟩ := x3.f2))
   refine bodyPost_ret (v := .tuple #[.agg #[.bool false, .slice none 0 0], .iface 57 (.int .i64 2)]) (by simp [results, Tryz.results60, go_sem, *] <;> trivial) rfl ?_
   exact ⟨_, _, _, _, rfl, IV.zero _ _, (b3.setCell (by dsimp only; omega) _).setCell (by dsimp only; omega) _⟩
  ·obtain ⟨d, rs, rfl⟩ := List.exists_cons_of_ne_nil hr
   have hlen : 1 < (48 :: d :: rs : List UInt8).length := by simp
   clear h3 hr
   go_enter Tryz.func60, Tryz.ntmps60
   go_wp2_with (first
    | (go_at_call 90; (with_reducible refine (prefix_v _ l _ HM.out.1).mono ?_); rintro e w1 ⟨rfl, hb1⟩; have b1 := b0.trans (hb1.mono b0.size); have x1 := x0.below hb1 x0.lt)
    | (go_at_call 91; (with_reducible refine (tprefix_v _ l _ HM.out.2).mono ?_); rintro e w2 ⟨rfl, hb2⟩; have b2 := b1.trans (hb2.mono b1.size); have x2 := x1.below hb2 x1.lt)
    | (go_at_call 92; (with_reducible refine (trim_v _ _ [] ?_ HX.out).mono ?_); (exact HTL.out); rintro e w3 ⟨rfl, hb3⟩; have b3 := b2.trans (hb3.mono b2.size); have x3 := x2.below hb3 x2.lt; obtain ⟨c0, c1⟩ := x3.c2; obtain ⟨f0, f1⟩ := x3.f2))
   refine bodyPost_ret (v := .tuple #[.agg #[.bool false, .slice none 0 0], .iface 57 (.int .i64 2)]) (by simp [results, Tryz.results60, go_sem, *] <;> trivial) rfl ?_
   exact ⟨_, _, _, _, rfl, IV.zero _ _, (b3.setCell (by dsimp only; omega) _).setCell (by dsimp only; omega) _⟩
def ParseI (T : List UInt8) (W0 wr : World) (tv mv : Value) : Prop := ∃ pre rest A1 n1 c1, tv = strV rest ∧ mv = .slice A1 n1 c1 ∧ n1 ≤ 65536 ∧ rest.length ≤ 65536 ∧ Kept (GrpI T pre rest ∧ pre.all isDg = true ∧ rest.all isDg = true ∧ Wd wr A1 n1 c1 (digs (decVal pre))) ∧ Below W0.heap.size W0 wr
def strLen : Value → Nat
  | .string s => s.size
  | _ => 0
theorem plus_k (w : World) (A : Option Addr) (n c x : Nat) (wa : Wd w A n c (digs x)) (hn : n ≤ 1099511627776) (A' : Option Addr) (n' c' y : Nat) (wb : Wd w A' n' c' (digs y)) (hn' : n' ≤ 1099511627776) :
    Calls Tryz.prog 86 #[.slice A n c, .slice A' n' c'] w (RetL w (digs (x + y))) := by
  have := plus_c w A n c (digs x) wa hn A' n' c' (digs y) wb hn'
  rw [val_digs, val_digs] at this
  exact this
theorem times_n (w : World) (A : Option Addr) (n c x : Nat) (wa : Wd w A n c (digs x)) (hn : n ≤ 1099511627776) (g : Nat) (z : Int) (y : Nat) (hz : z = y) (hy : y < 4294967296) (hb : Blk w g 100 #[.int .u32 z]) :
    Calls Tryz.prog 83 #[.slice A n c, .slice (some ⟨g, 0, none⟩) 1 1] w (RetL w (digs (x * y))) := by
  subst hz
  have h1 : Wd w (some ⟨g, 0, none⟩) 1 1 [y] := Blk.wdN (l := [y]) hb (by intro x hx; simp at hx; omega) rfl
  have := times_c w A n c (digs x) wa hn (some ⟨g, 0, none⟩) 1 1 [y] h1 (by omega)
  rw [val_digs, show val [y] = y by simp [val]] at this
  exact this
theorem trim_n (w : World) (g : Nat) (z : Int) (y : Nat) (hz : z = y) (hy : y < 4294967296) (hb : Blk w g 100 #[.int .u32 z]) :
    Calls Tryz.prog 94 #[.slice (some ⟨g, 0, none⟩) 1 1] w (RetL w (digs y)) := by
  subst hz
  have h1 : Wd w (some ⟨g, 0, none⟩) 1 1 [y] := Blk.wdN (l := [y]) hb (by intro x hx; simp at hx; omega) rfl
  have := trim_c w (some ⟨g, 0, none⟩) 1 1 [y] h1 (by omega)
  rw [show val [y] = y by simp [val]] at this
  exact this
theorem i_parse_ok (w : World) (l : List UInt8) (hl : l.length ≤ 65536) (hb : okZ l = true) :
    Calls Tryz.prog 60 #[strV l] w (RetIe w .nilIface (valZ l) l.length) := by
  have hsz := size_v l
  have htl2 := tailS_len l
  have htl := Nat.le_trans htl2 hl
  obtain ⟨m, hm⟩ : ∃ m, headM l = m := ⟨_, rfl⟩
  obtain ⟨t, ht⟩ : ∃ t, tailS l = t := ⟨_, rfl⟩
  obtain ⟨h0, h1, h2⟩ := okZ_parts hb
  have hv : valZ l = if m then -(decVal t : Int) else decVal t := by unfold valZ; rw [hm, ht]
  rw [hm, ht] at h2
  rw [ht] at htl htl2 h0 h1
  have HM := Lib.hid (And.intro hm ht)
  have HV := Lib.hid hv
  have b0 : Below w.heap.size w (w.alloc (.cells #[.bool false, .slice none 0 0] 77)) := (brefl w).alloc (Nat.le_refl _) _
  have x0 : Blk (w.alloc (.cells #[.bool false, .slice none 0 0] 77)) w.heap.size 77 #[.bool false, .slice none 0 0] := blkAt _ _ _ rfl
  clear hb hm ht hv
  obtain ⟨c, r, rfl⟩ := List.exists_cons_of_ne_nil h0
  have htl0 := toList_v (c :: r)
  have htl1 := toList_v []
  have hsz0 := size_v (c :: r)
  have HX := Lib.hid (trim_dg.2 h1)
  have HTL := Lib.hid (show (c :: r : List UInt8).length ≤ 1000000 by omega)
  have HALL := Lib.hid h1
  have hcase : c ≠ 48 ∨ (c = 48 ∧ r = [] ∧ m = false) := by
    by_cases hc : c = 48
    · refine .inr ⟨hc, ?_, ?_⟩
      · cases r with
        | nil => rfl
        | cons d rs => exact absurd ⟨by rw [hc]; rfl, .inl (by simp)⟩ h2
      · cases m with
        | false => rfl
        | true => exact absurd ⟨by rw [hc]; rfl, .inr rfl⟩ h2
    · exact .inl hc
  have HLL := Lib.hid htl
  have HSZ := Lib.hid (show (valZ l).natAbs < 4294967296 ^ l.length by
    rw [HV.out]
    refine Nat.lt_of_lt_of_le (show (if m = true then -(decVal (c :: r) : Int) else (decVal (c :: r) : Int)).natAbs < 4294967296 ^ (c :: r).length by
      have := decVal_words h1
      split <;> omega) (Nat.pow_le_pow_right (by omega) htl2))
  clear h0 h1 h2
  rcases hcase with hc | ⟨rfl, rfl, rfl⟩
  · have hcn : c.toNat ≠ 48 := fun e => hc (UInt8.toNat.inj e)
    have hcz : ¬ (c.toNat : Int) = 48 := by omega
    have hcb : ((c.toNat : Int) == 48) = false := by simp; omega
    have hget : ∀ h, (⟨(c :: r).toArray⟩ : ByteArray)[0]'h = c := fun h => rfl
    go_enter Tryz.func60, Tryz.ntmps60
    go_wp2_with (first
      | (go_at_call 90; (with_reducible refine (prefix_v _ l _ HM.out.1).mono ?_); rintro e w1 ⟨rfl, hb1⟩; have b1 := b0.trans (hb1.mono b0.size); have x1 := x0.below hb1 x0.lt)
      | (go_at_call 91; (with_reducible refine (tprefix_v _ l _ HM.out.2).mono ?_); rintro e w2 ⟨rfl, hb2⟩; have b2 := b1.trans (hb2.mono b1.size); have x2 := x1.below hb2 x1.lt)
      | (go_at_call 92; (with_reducible refine (trim_v _ _ [] ?_ HX.out).mono ?_); (exact HTL.out); rintro e w3 ⟨rfl, hb3⟩; have b3 := b2.trans (hb3.mono b2.size); have x3 := x2.below hb3 x2.lt))
    clear hget hcz hcb hcn hc htl0 htl1 hsz0
    go_loopw [5, 6] (fun tv mv wr => ParseI (c :: r) w3 wr tv mv) (fun tv _ _ => strLen tv)
    case atStart => exact ⟨[], (c :: r), none, 0, 0, rfl, rfl, by omega, HLL.out, ⟨GrpI.start _, rfl, HALL.out, by rw [show decVal [] = 0 from rfl, digs_zero]; exact Wd.nil_ _⟩, brefl _⟩
    case round =>
      obtain ⟨pre, rest, A1, n1, c1, rfl, rfl, hn1, hrl, hK, rr⟩ := hrel
      have bw := b3.trans (rr.mono b3.size)
      have x4 := x3.below rr x3.lt
      by_cases hr0 : rest = []
      · subst hr0
        have hpre := hK.1.fin
        subst hpre
        have hsz1 := size_v []
        go_wp2_with (go_at_call 82; (with_reducible refine (whole_c _ m A1 n1 c1 (digs (decVal (c :: r))) ?_ ?_).mono ?_); (exact hK.2.2.2); omega; rintro e w5 ⟨A5, n5, c5, rfl, h5, hb5⟩; have b5 := bw.trans (hb5.mono bw.size); have x5 := x4.below hb5 x4.lt; obtain ⟨d0, d1⟩ := x5.c2; obtain ⟨f0, f1⟩ := x5.f2)
        rw [val_digs] at h5
        have hz : sgn m (decVal (c :: r)) = valZ l := by rw [HV.out]; rfl
        rw [hz] at h5
        refine bodyPost_ret (v := .tuple #[.agg #[.bool _, .slice A5 n5 c5], .nilIface]) (by simp [results, Tryz.results60, go_sem, *] <;> trivial) rfl ?_
        exact ⟨_, _, _, _, rfl, IV.mk_ (h5.keep (kp2 ⟨_, _, x5⟩ (by decide) _ _ _ _)) (by rw [val_digs, hz]) HSZ.out, (b5.setCell (by dsimp only; omega) _).setCell (by dsimp only; omega) _⟩
      · have hlp : 0 < rest.length := List.length_pos_iff.2 hr0
        obtain ⟨L, hL⟩ : ∃ L, rest.length = L := ⟨_, rfl⟩
        obtain ⟨k, hk⟩ : ∃ k, (L - 1) % 9 = k := ⟨_, rfl⟩
        have hk9 : k < 9 := by rw [← hk]; exact Nat.mod_lt _ (by omega)
        have hst := hK.1.step (n := k + 1) hlp (by rw [hL, hk])
        rw [hL] at hst hlp hrl
        have hkL := hst.1
        have hsz1 : (⟨rest.toArray⟩ : ByteArray).size = L := hL
        have e1 : ((L : Int) - 1) % 9 = (k : Int) := by omega
        have e2 : (⟨rest.toArray⟩ : ByteArray).extract 0 (k + 1) = ⟨(rest.take (k + 1)).toArray⟩ := by rw [ext_v]; simp
        have e3 : (⟨rest.toArray⟩ : ByteArray).extract (k + 1) L = ⟨(rest.drop (k + 1)).toArray⟩ := by rw [ext_v, List.take_of_length_le]; rw [List.length_drop, hL]; exact Nat.le_refl _
        obtain ⟨x, hx⟩ : ∃ x, decVal (rest.take (k + 1)) = x := ⟨_, rfl⟩
        have htk := all_take hK.2.2.1 (k + 1)
        have hx9 : x < 1000000000 := by
          have h9 := decVal_lt htk
          rw [hx] at h9
          refine Nat.lt_of_lt_of_le h9 (Nat.le_trans (Nat.pow_le_pow_right (by omega) (show (rest.take (k + 1)).length ≤ 9 by rw [List.length_take]; omega)) (by decide))
        have hpd := all_drop hK.2.2.1 (k + 1)
        have HST := Lib.hid hst
        have HXX := Lib.hid hx
        have HTK := Lib.hid htk
        have HLR := Lib.hid hL
        have hnd : (rest.drop (k + 1)).length = L - (k + 1) := by rw [List.length_drop, hL]
        have HND := Lib.hid hnd
        have hT1 : (rest.take (k + 1)).length ≤ 9 := by rw [List.length_take]; omega
        have hT0 : rest.take (k + 1) ≠ [] := fun e => by have := congrArg List.length e; rw [List.length_take, hL] at this; simp at this; omega
        have HT1 := Lib.hid (And.intro hT1 hT0)
        have hpl := decVal_lt (show (pre ++ rest.take (k + 1)).all isDg = true by rw [List.all_append, hK.2.1, htk]; rfl)
        clear hk hst hx htk hL hr0 hnd hT1 hT0
        go_wp2_with (first
          | (go_at_call 93; (with_reducible refine (atoi_v _ (rest.take (k + 1)) x ?_ ?_ ?_ HXX.out).mono ?_); (exact HT1.out.1); (exact HT1.out.2); (exact HTK.out); rintro e w5 ⟨rfl, hb5⟩; have b5 : Below wr.heap.size wr (w5.alloc (.cells #[.int .u32 1000000000] 100)) := hb5.alloc hb5.size _; have y5 : Blk (w5.alloc (.cells #[.int .u32 1000000000] 100)) w5.heap.size 100 #[.int .u32 1000000000] := blkAt _ _ _ rfl)
          | (go_at_call 83; (with_reducible refine (times_n _ A1 n1 c1 (decVal pre) ?_ ?_ w5.heap.size 1000000000 1000000000 ?_ ?_ ?_).mono ?_); (exact hK.2.2.2.belw b5); omega; rfl; omega; (exact y5); rintro e w6 ⟨A6, n6, c6, rfl, h6, hb6⟩; have b6 := b5.trans (hb6.mono b5.size); have hn6 : n6 ≤ 1000000000 := (by have h9 := h6.2.1; rw [h9]; refine Nat.le_trans (length_digs_le (k := n1 + 1) ?_) (by omega); have h8 := (hK.2.2.2).vlt (Nat.le_refl _); rw [val_digs] at h8; rw [Nat.pow_succ]; exact Nat.mul_lt_mul'' h8 (by omega)))
          | (go_at_call 94; (with_reducible refine (trim_n _ w6.heap.size (x : Int) x ?_ ?_ ?_).mono ?_); (first | rfl | omega); omega; (exact blkAt _ _ _ rfl); rintro e w7 ⟨A7, n7, c7, rfl, h7, hb7⟩; have b7 : Below wr.heap.size wr w7 := (b6.alloc b6.size _).trans (hb7.mono (by have := b6.size; simp; omega)); have h67 : Below w6.heap.size w6 w7 := ((brefl w6).alloc (Nat.le_refl _) _).trans (hb7.mono (by simp)); have hn7 : n7 ≤ 1000000000 := (by have h9 := h7.2.1; rw [h9]; exact Nat.le_trans (length_digs_le (k := 1) (by omega)) (by omega)))
          | (go_at_call 86; (with_reducible refine (plus_k _ A6 n6 c6 (decVal pre * 1000000000) ?_ ?_ A7 n7 c7 x ?_ ?_).mono ?_); (exact h6.belw h67); omega; (exact h7); omega; rintro e w8 ⟨A8, n8, c8, rfl, h8, hb8⟩; have b8 := b7.trans (hb8.mono b7.size)))
        have hv8 : decVal pre * 1000000000 + x = decVal (pre ++ rest.take (k + 1)) := by rw [HST.out.2.2.2.2, HXX.out]
        go_roundw
        case rel =>
          refine ⟨pre ++ rest.take (k + 1), rest.drop (k + 1), A8, n8, c8, rfl, rfl, ?_, by rw [HND.out]; omega, ⟨HST.out.2.2.2.1, by rw [List.all_append, hK.2.1, HTK.out]; rfl, hpd, by rw [← hv8]; exact h8⟩, rr.trans (b8.mono rr.size)⟩
          rw [h8.2.1, hv8]
          refine Nat.le_trans (length_digs_le (Nat.lt_of_lt_of_le hpl (len_ten _))) ?_
          have h9 := congrArg List.length HST.out.2.2.2.1.1
          rw [List.length_append] at h9
          omega
        case measure =>
          show (rest.drop (k + 1)).length < rest.length
          rw [HND.out, HLR.out]; omega
  · go_enter Tryz.func60, Tryz.ntmps60
    go_wp2_with (first
      | (go_at_call 90; (with_reducible refine (prefix_v _ l _ HM.out.1).mono ?_); rintro e w1 ⟨rfl, hb1⟩; have b1 := b0.trans (hb1.mono b0.size); have x1 := x0.below hb1 x0.lt)
      | (go_at_call 91; (with_reducible refine (tprefix_v _ l _ HM.out.2).mono ?_); rintro e w2 ⟨rfl, hb2⟩; have b2 := b1.trans (hb2.mono b1.size); have x2 := x1.below hb2 x1.lt)
      | (go_at_call 92; (with_reducible refine (trim_v _ _ [] ?_ HX.out).mono ?_); (exact HTL.out); rintro e w3 ⟨rfl, hb3⟩; have b3 := b2.trans (hb3.mono b2.size); have x3 := x2.below hb3 x2.lt))
    clear htl0 htl1
    go_loopw [5, 6] (fun tv mv wr => ParseI [48] w3 wr tv mv) (fun tv _ _ => strLen tv)
    case atStart => exact ⟨[], [48], none, 0, 0, rfl, rfl, by omega, HLL.out, ⟨GrpI.start _, rfl, HALL.out, by rw [show decVal [] = 0 from rfl, digs_zero]; exact Wd.nil_ _⟩, brefl _⟩
    case round =>
      obtain ⟨pre, rest, A1, n1, c1, rfl, rfl, hn1, hrl, hK, rr⟩ := hrel
      have bw := b3.trans (rr.mono b3.size)
      have x4 := x3.below rr x3.lt
      by_cases hr0 : rest = []
      · subst hr0
        have hpre := hK.1.fin
        subst hpre
        have hsz1 := size_v []
        go_wp2_with (go_at_call 82; (with_reducible refine (whole_c _ false A1 n1 c1 (digs (decVal [48])) ?_ ?_).mono ?_); (exact hK.2.2.2); omega; rintro e w5 ⟨A5, n5, c5, rfl, h5, hb5⟩; have b5 := bw.trans (hb5.mono bw.size); have x5 := x4.below hb5 x4.lt; obtain ⟨d0, d1⟩ := x5.c2; obtain ⟨f0, f1⟩ := x5.f2)
        rw [val_digs] at h5
        have hz : sgn false (decVal [48]) = valZ l := by rw [HV.out]; rfl
        rw [hz] at h5
        refine bodyPost_ret (v := .tuple #[.agg #[.bool _, .slice A5 n5 c5], .nilIface]) (by simp [results, Tryz.results60, go_sem, *] <;> trivial) rfl ?_
        exact ⟨_, _, _, _, rfl, IV.mk_ (h5.keep (kp2 ⟨_, _, x5⟩ (by decide) _ _ _ _)) (by rw [val_digs, hz]) HSZ.out, (b5.setCell (by dsimp only; omega) _).setCell (by dsimp only; omega) _⟩
      · have hlp : 0 < rest.length := List.length_pos_iff.2 hr0
        obtain ⟨L, hL⟩ : ∃ L, rest.length = L := ⟨_, rfl⟩
        obtain ⟨k, hk⟩ : ∃ k, (L - 1) % 9 = k := ⟨_, rfl⟩
        have hk9 : k < 9 := by rw [← hk]; exact Nat.mod_lt _ (by omega)
        have hst := hK.1.step (n := k + 1) hlp (by rw [hL, hk])
        rw [hL] at hst hlp hrl
        have hkL := hst.1
        have hsz1 : (⟨rest.toArray⟩ : ByteArray).size = L := hL
        have e1 : ((L : Int) - 1) % 9 = (k : Int) := by omega
        have e2 : (⟨rest.toArray⟩ : ByteArray).extract 0 (k + 1) = ⟨(rest.take (k + 1)).toArray⟩ := by rw [ext_v]; simp
        have e3 : (⟨rest.toArray⟩ : ByteArray).extract (k + 1) L = ⟨(rest.drop (k + 1)).toArray⟩ := by rw [ext_v, List.take_of_length_le]; rw [List.length_drop, hL]; exact Nat.le_refl _
        obtain ⟨x, hx⟩ : ∃ x, decVal (rest.take (k + 1)) = x := ⟨_, rfl⟩
        have htk := all_take hK.2.2.1 (k + 1)
        have hx9 : x < 1000000000 := by
          have h9 := decVal_lt htk
          rw [hx] at h9
          refine Nat.lt_of_lt_of_le h9 (Nat.le_trans (Nat.pow_le_pow_right (by omega) (show (rest.take (k + 1)).length ≤ 9 by rw [List.length_take]; omega)) (by decide))
        have hpd := all_drop hK.2.2.1 (k + 1)
        have HST := Lib.hid hst
        have HXX := Lib.hid hx
        have HTK := Lib.hid htk
        have HLR := Lib.hid hL
        have hnd : (rest.drop (k + 1)).length = L - (k + 1) := by rw [List.length_drop, hL]
        have HND := Lib.hid hnd
        have hT1 : (rest.take (k + 1)).length ≤ 9 := by rw [List.length_take]; omega
        have hT0 : rest.take (k + 1) ≠ [] := fun e => by have := congrArg List.length e; rw [List.length_take, hL] at this; simp at this; omega
        have HT1 := Lib.hid (And.intro hT1 hT0)
        have hpl := decVal_lt (show (pre ++ rest.take (k + 1)).all isDg = true by rw [List.all_append, hK.2.1, htk]; rfl)
        clear hk hst hx htk hL hr0 hnd hT1 hT0
        go_wp2_with (first
          | (go_at_call 93; (with_reducible refine (atoi_v _ (rest.take (k + 1)) x ?_ ?_ ?_ HXX.out).mono ?_); (exact HT1.out.1); (exact HT1.out.2); (exact HTK.out); rintro e w5 ⟨rfl, hb5⟩; have b5 : Below wr.heap.size wr (w5.alloc (.cells #[.int .u32 1000000000] 100)) := hb5.alloc hb5.size _; have y5 : Blk (w5.alloc (.cells #[.int .u32 1000000000] 100)) w5.heap.size 100 #[.int .u32 1000000000] := blkAt _ _ _ rfl)
          | (go_at_call 83; (with_reducible refine (times_n _ A1 n1 c1 (decVal pre) ?_ ?_ w5.heap.size 1000000000 1000000000 ?_ ?_ ?_).mono ?_); (exact hK.2.2.2.belw b5); omega; rfl; omega; (exact y5); rintro e w6 ⟨A6, n6, c6, rfl, h6, hb6⟩; have b6 := b5.trans (hb6.mono b5.size); have hn6 : n6 ≤ 1000000000 := (by have h9 := h6.2.1; rw [h9]; refine Nat.le_trans (length_digs_le (k := n1 + 1) ?_) (by omega); have h8 := (hK.2.2.2).vlt (Nat.le_refl _); rw [val_digs] at h8; rw [Nat.pow_succ]; exact Nat.mul_lt_mul'' h8 (by omega)))
          | (go_at_call 94; (with_reducible refine (trim_n _ w6.heap.size (x : Int) x ?_ ?_ ?_).mono ?_); (first | rfl | omega); omega; (exact blkAt _ _ _ rfl); rintro e w7 ⟨A7, n7, c7, rfl, h7, hb7⟩; have b7 : Below wr.heap.size wr w7 := (b6.alloc b6.size _).trans (hb7.mono (by have := b6.size; simp; omega)); have h67 : Below w6.heap.size w6 w7 := ((brefl w6).alloc (Nat.le_refl _) _).trans (hb7.mono (by simp)); have hn7 : n7 ≤ 1000000000 := (by have h9 := h7.2.1; rw [h9]; exact Nat.le_trans (length_digs_le (k := 1) (by omega)) (by omega)))
          | (go_at_call 86; (with_reducible refine (plus_k _ A6 n6 c6 (decVal pre * 1000000000) ?_ ?_ A7 n7 c7 x ?_ ?_).mono ?_); (exact h6.belw h67); omega; (exact h7); omega; rintro e w8 ⟨A8, n8, c8, rfl, h8, hb8⟩; have b8 := b7.trans (hb8.mono b7.size)))
        have hv8 : decVal pre * 1000000000 + x = decVal (pre ++ rest.take (k + 1)) := by rw [HST.out.2.2.2.2, HXX.out]
        go_roundw
        case rel =>
          refine ⟨pre ++ rest.take (k + 1), rest.drop (k + 1), A8, n8, c8, rfl, rfl, ?_, by rw [HND.out]; omega, ⟨HST.out.2.2.2.1, by rw [List.all_append, hK.2.1, HTK.out]; rfl, hpd, by rw [← hv8]; exact h8⟩, rr.trans (b8.mono rr.size)⟩
          rw [h8.2.1, hv8]
          refine Nat.le_trans (length_digs_le (Nat.lt_of_lt_of_le hpl (len_ten _))) ?_
          have h9 := congrArg List.length HST.out.2.2.2.1.1
          rw [List.length_append] at h9
          omega
        case measure =>
          show (rest.drop (k + 1)).length < rest.length
          rw [HND.out, HLR.out]; omega
end Go.Proofs.YtianjkiakkclgaaGreatDoor

/- Walks: linkworkref01.Parse. -/
namespace Go.Proofs.YtianjkiakkclgaaGreatDoor
open Go Go.RowKit Bn
attribute [local go_sem ↓] Go.wp_at_zero Go.wp_at_succ

theorem r_parse_big (w : World) (l : List UInt8) (hl : 65536 < l.length) :
  Calls Tryz.prog 72 #[strV l] w (RetIe w (.int .i64 4) 0 0) := by
 have hsz := size_v l
 go_enter Tryz.func72, Tryz.ntmps72
 go_wp2
 refine bodyPost_ret (v := .tuple #[.agg #[.bool false, .slice none 0 0], .int .i64 4]) (by simp [results, Tryz.results72, go_sem, *] <;> trivial) rfl ?_
 exact ⟨_, _, _, _, rfl, IV.zero _ _, ((brefl w).alloc (Nat.le_refl _) _)⟩
theorem r_times_n (w : World) (A : Option Addr) (n c x : Nat) (wa : Wd w A n c (digs x)) (hn : n ≤ 1099511627776) (g : Nat) (z : Int) (y : Nat) (hz : z = y) (hy : y < 4294967296) (hb : Blk w g 100 #[.int .u32 z]) :
    Calls Tryz.prog 106 #[.slice A n c, .slice (some ⟨g, 0, none⟩) 1 1] w (RetL w (digs (x * y))) := by
  subst hz
  have h1 : Wd w (some ⟨g, 0, none⟩) 1 1 [y] := Blk.wdN (l := [y]) hb (by intro x hx; simp at hx; omega) rfl
  have := r_times_c w A n c (digs x) wa hn (some ⟨g, 0, none⟩) 1 1 [y] h1 (by omega)
  rw [val_digs, show val [y] = y by simp [val]] at this
  exact this
theorem r_plus_n (w : World) (A : Option Addr) (n c x : Nat) (wa : Wd w A n c (digs x)) (hn : n ≤ 1099511627776) (g : Nat) (z : Int) (y : Nat) (hz : z = y) (hy : y < 4294967296) (hb : Blk w g 100 #[.int .u32 z]) :
    Calls Tryz.prog 103 #[.slice A n c, .slice (some ⟨g, 0, none⟩) 1 1] w (RetL w (digs (x + y))) := by
  subst hz
  have h1 : Wd w (some ⟨g, 0, none⟩) 1 1 [y] := Blk.wdN (l := [y]) hb (by intro x hx; simp at hx; omega) rfl
  have := r_plus_c w A n c (digs x) wa hn (some ⟨g, 0, none⟩) 1 1 [y] h1 (by omega)
  rw [val_digs, show val [y] = y by simp [val]] at this
  exact this
theorem head_cases (l : List UInt8) : (headM l = true ∧ l = 45 :: tailS l) ∨ (headM l = false ∧ tailS l = l) := by
  cases l with
  | nil => exact .inr ⟨rfl, rfl⟩
  | cons x r =>
    by_cases h : x = 45
    · subst h; exact .inl ⟨rfl, rfl⟩
    · refine .inr ⟨?_, ?_⟩
      · unfold headM; split
        · rename_i h1; injection h1 with h2; exact absurd h2 h
        · rfl
      · unfold tailS; split
        · rename_i h1; injection h1 with h2; exact absurd h2 h
        · rfl
def AnyW (_ : World) : Prop := True
theorem anyW (w : World) : AnyW w := True.intro
def RParseI (T : List UInt8) (W0 wr : World) (mv iv : Value) : Prop := ∃ k A1 n1 c1, iv = .int .i64 (k : Nat) ∧ mv = .slice A1 n1 c1 ∧ n1 ≤ 65536 ∧ k ≤ T.length ∧ Kept ((T.take k).all isDg = true ∧ Wd wr A1 n1 c1 (digs (decVal (T.take k)))) ∧ Below W0.heap.size W0 wr
def RetP (w : World) (T : List UInt8) (m : Bool) (k : Nat) (e : Ending) (w' : World) : Prop :=
  if T.all isDg = true then RetIe w (.int .i64 0) (if m then -(decVal T : Int) else decVal T) k e w' else RetIe w (.int .i64 2) 0 0 e w'
theorem RetP.bad {w w' : World} {T : List UInt8} {m : Bool} {k : Nat} {e : Ending} (h : ¬ T.all isDg = true) (hr : RetIe w (.int .i64 2) 0 0 e w') : RetP w T m k e w' := by
  unfold RetP; rw [if_neg h]; exact hr
theorem RetP.good {w w' : World} {T : List UInt8} {m : Bool} {k : Nat} {e : Ending} (h : T.all isDg = true) (hr : RetIe w (.int .i64 0) (if m then -(decVal T : Int) else decVal T) k e w') : RetP w T m k e w' := by
  unfold RetP; rw [if_pos h]; exact hr
theorem r_parse_go (w : World) (l : List UInt8) (hl : l.length ≤ 65536) (m : Bool) (T : List UInt8) (hm : headM l = m) (hT : tailS l = T) (h0 : T ≠ []) (h2 : ¬ (T.head? = some 48 ∧ (1 < T.length ∨ m = true))) :
    Calls Tryz.prog 72 #[strV l] w (RetP w T m l.length) := by
  have hsz := size_v l
  have htl2 := tailS_len l
  rw [hT] at htl2
  have htl := Nat.le_trans htl2 hl
  have b0 : Below w.heap.size w (w.alloc (.cells #[.bool false, .slice none 0 0] 77)) := (brefl w).alloc (Nat.le_refl _) _
  have x0 : Blk (w.alloc (.cells #[.bool false, .slice none 0 0] 77)) w.heap.size 77 #[.bool false, .slice none 0 0] := blkAt _ _ _ rfl
  obtain ⟨c, r, hcr⟩ := List.exists_cons_of_ne_nil h0
  have hcase : c ≠ 48 ∨ (c = 48 ∧ T.length = 1 ∧ m = false) := by
    by_cases hc : c = 48
    · refine .inr ⟨hc, ?_, ?_⟩
      · subst hcr
        cases r with
        | nil => rfl
        | cons d rs => exact absurd ⟨by rw [hc]; rfl, .inl (by simp)⟩ h2
      · subst hcr
        cases m with
        | false => rfl
        | true => exact absurd ⟨by rw [hc]; rfl, .inr rfl⟩ h2
    · exact .inl hc
  have hszT := size_v T
  have HL2 := Lib.hid htl2
  have hgetT : ∀ h, (⟨T.toArray⟩ : ByteArray)[0]'h = c := fun h => by subst hcr; rfl
  have hTp : 0 < T.length := List.length_pos_iff.2 h0
  have hTb : ((T.length : Int) == 0) = false := by simp; exact h0
  have hlp : 0 < l.length := by omega
  have HM := Lib.hid (And.intro hm hT)
  have hlm : (m = true → l = 45 :: T) ∧ (m = false → l = T) := by
    rcases head_cases l with ⟨a, b⟩ | ⟨a, b⟩
    · rw [hT] at b; exact ⟨fun _ => b, fun h => (by rw [← hm, a] at h; cases h)⟩
    · rw [hT] at b; exact ⟨fun h => (by rw [← hm, a] at h; cases h), fun _ => b.symm⟩
  have hc45 : m = false → c ≠ 45 := fun h e => by
    have h9 := hlm.2 h
    rw [h9, hcr, e, h] at hm
    exact absurd hm (by simp [headM])
  clear h2 hm hT hcr
  have hcn : c ≠ 48 → c.toNat ≠ 48 := fun h e => h (UInt8.toNat.inj e)
  cases m with
  | true =>
    have hc : c ≠ 48 := by
      rcases hcase with h | ⟨_, _, h⟩
      · exact h
      · cases h
    have hl5 := hlm.1 rfl
    have hgetl : ∀ h, (⟨l.toArray⟩ : ByteArray)[0]'h = 45 := fun h => by subst hl5; rfl
    have e1 : (⟨l.toArray⟩ : ByteArray).extract 1 l.length = ⟨T.toArray⟩ := by rw [ext_v, hl5]; simp
    have hl1 : 1 < l.length := by rw [hl5]; simp; exact hTp
    replace hcn := hcn hc
    have hcz : ¬ (c.toNat : Int) = 48 := by omega
    have hcb : ((c.toNat : Int) == 48) = false := by simp; omega
    clear hcase hl5 hlm
    go_enter Tryz.func72, Tryz.ntmps72
    go_wp2
    clear hgetl hgetT e1 hcz hcb hcn hc hl1 h0
    go_loopw [6, 42] (fun mv iv wr => RParseI T (w.alloc (.cells #[.bool false, .slice none 0 0] 77)) wr mv iv) (fun _ iv _ => T.length - (intOf iv).toNat)
    case atStart => exact ⟨0, none, 0, 0, rfl, rfl, by omega, Nat.zero_le _, ⟨rfl, by rw [List.take_zero, show decVal [] = 0 from rfl, digs_zero]; exact Wd.nil_ _⟩, brefl _⟩
    case round =>
      obtain ⟨k, A1, n1, c1, rfl, rfl, hn1, hk, hK, rr⟩ := hrel
      have bw := b0.trans (rr.mono b0.size)
      by_cases hkT : k = T.length
      · subst hkT
        rw [List.take_length] at hK
        have x4 : Blk wr w.heap.size 77 #[.bool false, .slice none 0 0] := x0.below rr x0.lt
        go_wp2_with (go_at_call 100; (with_reducible refine (r_form_e _ true A1 n1 c1 (digs (decVal T)) (-(decVal T : Int)) ?_ ?_ ?_).mono ?_); (exact hK.2); omega; (rw [val_digs]; rfl); rintro e w5 ⟨A5, n5, c5, rfl, h5, hb5⟩; have b5 := bw.trans (hb5.mono bw.size); have x5 := x4.below hb5 x4.lt; obtain ⟨d0, d1⟩ := x5.c2; obtain ⟨f0, f1⟩ := x5.f2)
        refine bodyPost_ret (v := .tuple #[.agg #[.bool _, .slice A5 n5 c5], .int .i64 0]) (by simp [results, Tryz.results72, go_sem, *] <;> trivial) rfl ?_
        refine RetP.good hK.1 ⟨_, _, _, _, rfl, IV.mk_ (h5.keep (kp2 ⟨_, _, x5⟩ (by decide) _ _ _ _)) rfl ?_, (b5.setCell (by dsimp only; omega) _).setCell (by dsimp only; omega) _⟩
        have h9 := Nat.lt_of_lt_of_le (decVal_words hK.1) (Nat.pow_le_pow_right (by omega) HL2.out)
        omega
      · have hkl : k < T.length := by omega
        obtain ⟨d, hd⟩ : ∃ d, T[k] = d := ⟨_, rfl⟩
        have hget : ∀ h, (⟨T.toArray⟩ : ByteArray)[k]'h = d := fun h => hd
        have hts : T.take (k + 1) = T.take k ++ [d] := by rw [List.take_succ_eq_append_getElem hkl, hd]
        have HTS := Lib.hid hts
        by_cases hdg : isDg d = true
        · have h8 : 48 ≤ d.toNat ∧ d.toNat ≤ 57 := by unfold isDg at hdg; rw [Bool.and_eq_true, decide_eq_true_eq, decide_eq_true_eq] at hdg; exact hdg
          obtain ⟨dn, hdn⟩ : ∃ dn, d.toNat = dn := ⟨_, rfl⟩
          obtain ⟨v, hv⟩ : ∃ v, dn - 48 = v := ⟨_, rfl⟩
          rw [hdn] at h8
          have e1 : (dn : Int) - 48 = (v : Int) := by omega
          have hv9 : v ≤ 9 := by omega
          have h81 := h8.1
          have h82 := h8.2
          have HD := Lib.hid (show dval d = v by unfold dval; rw [hdn]; exact hv)
          have HDG := Lib.hid hdg
          have hw8 : IntKind.u8.wrap (v : Int) = (v : Int) := IntWalk.u8_in _ ⟨by omega, by omega⟩
          have hw32 : IntKind.u32.wrap (v : Int) = (v : Int) := IntWalk.u32_in _ ⟨by omega, by omega⟩
          clear hd hts hdg hv hkT h8
          go_wp2_with fail
          go_region_held3 (fun w' => AnyW w') (exact anyW _) (first
            | (go_at_call 106; (with_reducible refine (r_times_n _ A1 n1 c1 (decVal (T.take k)) ?_ ?_ _ 10 10 ?_ ?_ ?_).mono ?_); (exact hK.2.belw (by first | exact (brefl wr).drew.alloc (by simp) _ | exact ((brefl wr).drew.alloc (by simp) _).alloc (by simp) _ | fail)); omega; rfl; omega; (first | exact blkAt _ _ _ (by simp) | exact (blkAt _ _ _ (by simp)).alloc _ | exact (blkAt _ _ _ (by simp)).drew | exact ((blkAt _ _ _ (by simp)).alloc _).drew | fail); rintro e w6 ⟨A6, n6, c6, rfl, h6, hb6⟩; have hn6 : n6 ≤ 1000000000 := (by have h9 := h6.2.1; rw [h9]; refine Nat.le_trans (length_digs_le (k := n1 + 1) ?_) (by omega); have h8 := hK.2.vlt (Nat.le_refl _); rw [val_digs] at h8; rw [Nat.pow_succ]; exact Nat.mul_lt_mul'' h8 (by omega)); have b6 : Below wr.heap.size wr w6 := (by first | exact ((brefl wr).drew.alloc (by simp) _).trans (hb6.mono (by simp)) | exact (((brefl wr).drew.alloc (by simp) _).alloc (by simp) _).trans (hb6.mono (by simp <;> omega)) | fail))
            | (go_at_call 103; (with_reducible refine (r_plus_n _ A6 n6 c6 (decVal (T.take k) * 10) ?_ ?_ _ (v : Int) v ?_ ?_ ?_).mono ?_); (first | exact h6 | exact h6.belw ((brefl w6).alloc (Nat.le_refl _) _)); omega; rfl; omega; (first | exact blkAt _ _ _ (by simp) | exact (blkAt _ _ _ (by simp)).below hb6 (by simp) | exact ((blkAt _ _ _ (by simp)).alloc _).below hb6 (by simp <;> omega) | exact (blkAt _ _ _ (by simp)).drew.below hb6 (by simp) | exact ((blkAt _ _ _ (by simp)).alloc _).drew.below hb6 (by simp <;> omega) | exact ((blkAt _ _ _ (by simp)).alloc _).drew.below hb6 (by simp) | fail); rintro e w7 ⟨A7, n7, c7, rfl, h7, hb7⟩; have b7 : Below wr.heap.size wr w7 := (by first | exact b6.trans (hb7.mono b6.size) | exact (b6.alloc b6.size _).trans (hb7.mono (by have := b6.size; simp; omega)) | fail)))
          all_goals
            clear hw8 hw32 e1
            go_wp2
            go_roundw
            case rel =>
              have hall : (T.take (k + 1)).all isDg = true := by rw [HTS.out, List.all_append, hK.1, List.all_cons, HDG.out]; rfl
              refine ⟨k + 1, A7, n7, c7, by go_num, rfl, ?_, hkl, ⟨hall, by rw [HTS.out, decVal_snoc, HD.out]; exact h7⟩, rr.trans (b7.mono rr.size)⟩
              have h9 := decVal_lt hall
              rw [HTS.out, decVal_snoc, HD.out] at h9
              rw [h7.2.1]
              refine Nat.le_trans (length_digs_le (Nat.lt_of_lt_of_le h9 (len_ten _))) ?_
              rw [← HTS.out, List.length_take]; omega
            case measure => simp [intOf]; omega
        · have hnall : ¬ T.all isDg = true := fun h => hdg (List.all_eq_true.1 h d (by rw [← hd]; exact List.getElem_mem _))
          have x4 : Blk wr w.heap.size 77 #[.bool false, .slice none 0 0] := x0.below rr x0.lt
          obtain ⟨d0, d1⟩ := x4.c2
          obtain ⟨f0, f1⟩ := x4.f2
          have hor : d.toNat < 48 ∨ (48 ≤ d.toNat ∧ 57 < d.toNat) := by
            unfold isDg at hdg; simp at hdg; omega
          obtain ⟨dn, hdn⟩ : ∃ dn, d.toNat = dn := ⟨_, rfl⟩
          rw [hdn] at hor
          have HN := Lib.hid hnall
          clear hd hts hdg hkT hnall
          rcases hor with h8 | ⟨h8, h82⟩
          all_goals
            go_wp2
            refine bodyPost_ret (v := .tuple #[.agg #[.bool false, .slice none 0 0], .int .i64 2]) (by simp [results, Tryz.results72, go_sem, *] <;> trivial) rfl ?_
            exact RetP.bad HN.out ⟨_, _, _, _, rfl, IV.zero _ _, (bw.setCell (by dsimp only; omega) _).setCell (by dsimp only; omega) _⟩
  | false =>
    have hl0 : T = l := (hlm.2 rfl).symm
    subst hl0
    have h45 := hc45 rfl
    clear hlm hc45
    rcases hcase with hc | ⟨hc, hT1, _⟩
    · replace hcn := hcn hc
      have hcz : ¬ (c.toNat : Int) = 48 := by omega
      have hcb : ((c.toNat : Int) == 48) = false := by simp; omega
      have h5n : c.toNat ≠ 45 := fun e => h45 (UInt8.toNat.inj e)
      have hz5 : ¬ (c.toNat : Int) = 45 := by omega
      have hb5x : ((c.toNat : Int) == 45) = false := by simp; omega
      go_enter Tryz.func72, Tryz.ntmps72
      go_wp2
      clear hgetT hcz hcb hcn hc h0 hz5 hb5x h45
      go_loopw [6, 42] (fun mv iv wr => RParseI T (w.alloc (.cells #[.bool false, .slice none 0 0] 77)) wr mv iv) (fun _ iv _ => T.length - (intOf iv).toNat)
      case atStart => exact ⟨0, none, 0, 0, rfl, rfl, by omega, Nat.zero_le _, ⟨rfl, by rw [List.take_zero, show decVal [] = 0 from rfl, digs_zero]; exact Wd.nil_ _⟩, brefl _⟩
      case round =>
        obtain ⟨k, A1, n1, c1, rfl, rfl, hn1, hk, hK, rr⟩ := hrel
        have bw := b0.trans (rr.mono b0.size)
        by_cases hkT : k = T.length
        · subst hkT
          rw [List.take_length] at hK
          have x4 : Blk wr w.heap.size 77 #[.bool false, .slice none 0 0] := x0.below rr x0.lt
          go_wp2_with (go_at_call 100; (with_reducible refine (r_form_e _ false A1 n1 c1 (digs (decVal T)) (decVal T : Int) ?_ ?_ ?_).mono ?_); (exact hK.2); omega; (rw [val_digs]; rfl); rintro e w5 ⟨A5, n5, c5, rfl, h5, hb5⟩; have b5 := bw.trans (hb5.mono bw.size); have x5 := x4.below hb5 x4.lt; obtain ⟨d0, d1⟩ := x5.c2; obtain ⟨f0, f1⟩ := x5.f2)
          refine bodyPost_ret (v := .tuple #[.agg #[.bool _, .slice A5 n5 c5], .int .i64 0]) (by simp [results, Tryz.results72, go_sem, *] <;> trivial) rfl ?_
          refine RetP.good hK.1 ⟨_, _, _, _, rfl, IV.mk_ (h5.keep (kp2 ⟨_, _, x5⟩ (by decide) _ _ _ _)) rfl ?_, (b5.setCell (by dsimp only; omega) _).setCell (by dsimp only; omega) _⟩
          have h9 := Nat.lt_of_lt_of_le (decVal_words hK.1) (Nat.pow_le_pow_right (by omega) HL2.out)
          omega
        · have hkl : k < T.length := by omega
          obtain ⟨d, hd⟩ : ∃ d, T[k] = d := ⟨_, rfl⟩
          have hget : ∀ h, (⟨T.toArray⟩ : ByteArray)[k]'h = d := fun h => hd
          have hts : T.take (k + 1) = T.take k ++ [d] := by rw [List.take_succ_eq_append_getElem hkl, hd]
          have HTS := Lib.hid hts
          by_cases hdg : isDg d = true
          · have h8 : 48 ≤ d.toNat ∧ d.toNat ≤ 57 := by unfold isDg at hdg; rw [Bool.and_eq_true, decide_eq_true_eq, decide_eq_true_eq] at hdg; exact hdg
            obtain ⟨dn, hdn⟩ : ∃ dn, d.toNat = dn := ⟨_, rfl⟩
            obtain ⟨v, hv⟩ : ∃ v, dn - 48 = v := ⟨_, rfl⟩
            rw [hdn] at h8
            have e1 : (dn : Int) - 48 = (v : Int) := by omega
            have hv9 : v ≤ 9 := by omega
            have h81 := h8.1
            have h82 := h8.2
            have HD := Lib.hid (show dval d = v by unfold dval; rw [hdn]; exact hv)
            have HDG := Lib.hid hdg
            have hw8 : IntKind.u8.wrap (v : Int) = (v : Int) := IntWalk.u8_in _ ⟨by omega, by omega⟩
            have hw32 : IntKind.u32.wrap (v : Int) = (v : Int) := IntWalk.u32_in _ ⟨by omega, by omega⟩
            clear hd hts hdg hv hkT h8
            go_wp2_with fail
            go_region_held3 (fun w' => AnyW w') (exact anyW _) (first
              | (go_at_call 106; (with_reducible refine (r_times_n _ A1 n1 c1 (decVal (T.take k)) ?_ ?_ _ 10 10 ?_ ?_ ?_).mono ?_); (exact hK.2.belw (by first | exact (brefl wr).drew.alloc (by simp) _ | exact ((brefl wr).drew.alloc (by simp) _).alloc (by simp) _ | fail)); omega; rfl; omega; (first | exact blkAt _ _ _ (by simp) | exact (blkAt _ _ _ (by simp)).alloc _ | exact (blkAt _ _ _ (by simp)).drew | exact ((blkAt _ _ _ (by simp)).alloc _).drew | fail); rintro e w6 ⟨A6, n6, c6, rfl, h6, hb6⟩; have hn6 : n6 ≤ 1000000000 := (by have h9 := h6.2.1; rw [h9]; refine Nat.le_trans (length_digs_le (k := n1 + 1) ?_) (by omega); have h8 := hK.2.vlt (Nat.le_refl _); rw [val_digs] at h8; rw [Nat.pow_succ]; exact Nat.mul_lt_mul'' h8 (by omega)); have b6 : Below wr.heap.size wr w6 := (by first | exact ((brefl wr).drew.alloc (by simp) _).trans (hb6.mono (by simp)) | exact (((brefl wr).drew.alloc (by simp) _).alloc (by simp) _).trans (hb6.mono (by simp <;> omega)) | fail))
              | (go_at_call 103; (with_reducible refine (r_plus_n _ A6 n6 c6 (decVal (T.take k) * 10) ?_ ?_ _ (v : Int) v ?_ ?_ ?_).mono ?_); (first | exact h6 | exact h6.belw ((brefl w6).alloc (Nat.le_refl _) _)); omega; rfl; omega; (first | exact blkAt _ _ _ (by simp) | exact (blkAt _ _ _ (by simp)).below hb6 (by simp) | exact ((blkAt _ _ _ (by simp)).alloc _).below hb6 (by simp <;> omega) | exact (blkAt _ _ _ (by simp)).drew.below hb6 (by simp) | exact ((blkAt _ _ _ (by simp)).alloc _).drew.below hb6 (by simp <;> omega) | exact ((blkAt _ _ _ (by simp)).alloc _).drew.below hb6 (by simp) | fail); rintro e w7 ⟨A7, n7, c7, rfl, h7, hb7⟩; have b7 : Below wr.heap.size wr w7 := (by first | exact b6.trans (hb7.mono b6.size) | exact (b6.alloc b6.size _).trans (hb7.mono (by have := b6.size; simp; omega)) | fail)))
            all_goals
              clear hw8 hw32 e1
              go_wp2
              go_roundw
              case rel =>
                have hall : (T.take (k + 1)).all isDg = true := by rw [HTS.out, List.all_append, hK.1, List.all_cons, HDG.out]; rfl
                refine ⟨k + 1, A7, n7, c7, by go_num, rfl, ?_, hkl, ⟨hall, by rw [HTS.out, decVal_snoc, HD.out]; exact h7⟩, rr.trans (b7.mono rr.size)⟩
                have h9 := decVal_lt hall
                rw [HTS.out, decVal_snoc, HD.out] at h9
                rw [h7.2.1]
                refine Nat.le_trans (length_digs_le (Nat.lt_of_lt_of_le h9 (len_ten _))) ?_
                rw [← HTS.out, List.length_take]; omega
              case measure => simp [intOf]; omega
          · have hnall : ¬ T.all isDg = true := fun h => hdg (List.all_eq_true.1 h d (by rw [← hd]; exact List.getElem_mem _))
            have x4 : Blk wr w.heap.size 77 #[.bool false, .slice none 0 0] := x0.below rr x0.lt
            obtain ⟨d0, d1⟩ := x4.c2
            obtain ⟨f0, f1⟩ := x4.f2
            have hor : d.toNat < 48 ∨ (48 ≤ d.toNat ∧ 57 < d.toNat) := by
              unfold isDg at hdg; simp at hdg; omega
            obtain ⟨dn, hdn⟩ : ∃ dn, d.toNat = dn := ⟨_, rfl⟩
            rw [hdn] at hor
            have HN := Lib.hid hnall
            clear hd hts hdg hkT hnall
            rcases hor with h8 | ⟨h8, h82⟩
            all_goals
              go_wp2
              refine bodyPost_ret (v := .tuple #[.agg #[.bool false, .slice none 0 0], .int .i64 2]) (by simp [results, Tryz.results72, go_sem, *] <;> trivial) rfl ?_
              exact RetP.bad HN.out ⟨_, _, _, _, rfl, IV.zero _ _, (bw.setCell (by dsimp only; omega) _).setCell (by dsimp only; omega) _⟩
    · subst hc
      have hT2 : ¬ 1 < T.length := by omega
      have hT3 : ¬ (1 : Int) < (T.length : Int) := by omega
      clear hT1
      go_enter Tryz.func72, Tryz.ntmps72
      go_wp2
      clear hgetT hcn h0 hT3
      go_loopw [6, 42] (fun mv iv wr => RParseI T (w.alloc (.cells #[.bool false, .slice none 0 0] 77)) wr mv iv) (fun _ iv _ => T.length - (intOf iv).toNat)
      case atStart => exact ⟨0, none, 0, 0, rfl, rfl, by omega, Nat.zero_le _, ⟨rfl, by rw [List.take_zero, show decVal [] = 0 from rfl, digs_zero]; exact Wd.nil_ _⟩, brefl _⟩
      case round =>
        obtain ⟨k, A1, n1, c1, rfl, rfl, hn1, hk, hK, rr⟩ := hrel
        have bw := b0.trans (rr.mono b0.size)
        by_cases hkT : k = T.length
        · subst hkT
          rw [List.take_length] at hK
          have x4 : Blk wr w.heap.size 77 #[.bool false, .slice none 0 0] := x0.below rr x0.lt
          go_wp2_with (go_at_call 100; (with_reducible refine (r_form_e _ false A1 n1 c1 (digs (decVal T)) (decVal T : Int) ?_ ?_ ?_).mono ?_); (exact hK.2); omega; (rw [val_digs]; rfl); rintro e w5 ⟨A5, n5, c5, rfl, h5, hb5⟩; have b5 := bw.trans (hb5.mono bw.size); have x5 := x4.below hb5 x4.lt; obtain ⟨d0, d1⟩ := x5.c2; obtain ⟨f0, f1⟩ := x5.f2)
          refine bodyPost_ret (v := .tuple #[.agg #[.bool _, .slice A5 n5 c5], .int .i64 0]) (by simp [results, Tryz.results72, go_sem, *] <;> trivial) rfl ?_
          refine RetP.good hK.1 ⟨_, _, _, _, rfl, IV.mk_ (h5.keep (kp2 ⟨_, _, x5⟩ (by decide) _ _ _ _)) rfl ?_, (b5.setCell (by dsimp only; omega) _).setCell (by dsimp only; omega) _⟩
          have h9 := Nat.lt_of_lt_of_le (decVal_words hK.1) (Nat.pow_le_pow_right (by omega) HL2.out)
          omega
        · have hkl : k < T.length := by omega
          obtain ⟨d, hd⟩ : ∃ d, T[k] = d := ⟨_, rfl⟩
          have hget : ∀ h, (⟨T.toArray⟩ : ByteArray)[k]'h = d := fun h => hd
          have hts : T.take (k + 1) = T.take k ++ [d] := by rw [List.take_succ_eq_append_getElem hkl, hd]
          have HTS := Lib.hid hts
          by_cases hdg : isDg d = true
          · have h8 : 48 ≤ d.toNat ∧ d.toNat ≤ 57 := by unfold isDg at hdg; rw [Bool.and_eq_true, decide_eq_true_eq, decide_eq_true_eq] at hdg; exact hdg
            obtain ⟨dn, hdn⟩ : ∃ dn, d.toNat = dn := ⟨_, rfl⟩
            obtain ⟨v, hv⟩ : ∃ v, dn - 48 = v := ⟨_, rfl⟩
            rw [hdn] at h8
            have e1 : (dn : Int) - 48 = (v : Int) := by omega
            have hv9 : v ≤ 9 := by omega
            have h81 := h8.1
            have h82 := h8.2
            have HD := Lib.hid (show dval d = v by unfold dval; rw [hdn]; exact hv)
            have HDG := Lib.hid hdg
            have hw8 : IntKind.u8.wrap (v : Int) = (v : Int) := IntWalk.u8_in _ ⟨by omega, by omega⟩
            have hw32 : IntKind.u32.wrap (v : Int) = (v : Int) := IntWalk.u32_in _ ⟨by omega, by omega⟩
            clear hd hts hdg hv hkT h8
            go_wp2_with fail
            go_region_held3 (fun w' => AnyW w') (exact anyW _) (first
              | (go_at_call 106; (with_reducible refine (r_times_n _ A1 n1 c1 (decVal (T.take k)) ?_ ?_ _ 10 10 ?_ ?_ ?_).mono ?_); (exact hK.2.belw (by first | exact (brefl wr).drew.alloc (by simp) _ | exact ((brefl wr).drew.alloc (by simp) _).alloc (by simp) _ | fail)); omega; rfl; omega; (first | exact blkAt _ _ _ (by simp) | exact (blkAt _ _ _ (by simp)).alloc _ | exact (blkAt _ _ _ (by simp)).drew | exact ((blkAt _ _ _ (by simp)).alloc _).drew | fail); rintro e w6 ⟨A6, n6, c6, rfl, h6, hb6⟩; have hn6 : n6 ≤ 1000000000 := (by have h9 := h6.2.1; rw [h9]; refine Nat.le_trans (length_digs_le (k := n1 + 1) ?_) (by omega); have h8 := hK.2.vlt (Nat.le_refl _); rw [val_digs] at h8; rw [Nat.pow_succ]; exact Nat.mul_lt_mul'' h8 (by omega)); have b6 : Below wr.heap.size wr w6 := (by first | exact ((brefl wr).drew.alloc (by simp) _).trans (hb6.mono (by simp)) | exact (((brefl wr).drew.alloc (by simp) _).alloc (by simp) _).trans (hb6.mono (by simp <;> omega)) | fail))
              | (go_at_call 103; (with_reducible refine (r_plus_n _ A6 n6 c6 (decVal (T.take k) * 10) ?_ ?_ _ (v : Int) v ?_ ?_ ?_).mono ?_); (first | exact h6 | exact h6.belw ((brefl w6).alloc (Nat.le_refl _) _)); omega; rfl; omega; (first | exact blkAt _ _ _ (by simp) | exact (blkAt _ _ _ (by simp)).below hb6 (by simp) | exact ((blkAt _ _ _ (by simp)).alloc _).below hb6 (by simp <;> omega) | exact (blkAt _ _ _ (by simp)).drew.below hb6 (by simp) | exact ((blkAt _ _ _ (by simp)).alloc _).drew.below hb6 (by simp <;> omega) | exact ((blkAt _ _ _ (by simp)).alloc _).drew.below hb6 (by simp) | fail); rintro e w7 ⟨A7, n7, c7, rfl, h7, hb7⟩; have b7 : Below wr.heap.size wr w7 := (by first | exact b6.trans (hb7.mono b6.size) | exact (b6.alloc b6.size _).trans (hb7.mono (by have := b6.size; simp; omega)) | fail)))
            all_goals
              clear hw8 hw32 e1
              go_wp2
              go_roundw
              case rel =>
                have hall : (T.take (k + 1)).all isDg = true := by rw [HTS.out, List.all_append, hK.1, List.all_cons, HDG.out]; rfl
                refine ⟨k + 1, A7, n7, c7, by go_num, rfl, ?_, hkl, ⟨hall, by rw [HTS.out, decVal_snoc, HD.out]; exact h7⟩, rr.trans (b7.mono rr.size)⟩
                have h9 := decVal_lt hall
                rw [HTS.out, decVal_snoc, HD.out] at h9
                rw [h7.2.1]
                refine Nat.le_trans (length_digs_le (Nat.lt_of_lt_of_le h9 (len_ten _))) ?_
                rw [← HTS.out, List.length_take]; omega
              case measure => simp [intOf]; omega
          · have hnall : ¬ T.all isDg = true := fun h => hdg (List.all_eq_true.1 h d (by rw [← hd]; exact List.getElem_mem _))
            have x4 : Blk wr w.heap.size 77 #[.bool false, .slice none 0 0] := x0.below rr x0.lt
            obtain ⟨d0, d1⟩ := x4.c2
            obtain ⟨f0, f1⟩ := x4.f2
            have hor : d.toNat < 48 ∨ (48 ≤ d.toNat ∧ 57 < d.toNat) := by
              unfold isDg at hdg; simp at hdg; omega
            obtain ⟨dn, hdn⟩ : ∃ dn, d.toNat = dn := ⟨_, rfl⟩
            rw [hdn] at hor
            have HN := Lib.hid hnall
            clear hd hts hdg hkT hnall
            rcases hor with h8 | ⟨h8, h82⟩
            all_goals
              go_wp2
              refine bodyPost_ret (v := .tuple #[.agg #[.bool false, .slice none 0 0], .int .i64 2]) (by simp [results, Tryz.results72, go_sem, *] <;> trivial) rfl ?_
              exact RetP.bad HN.out ⟨_, _, _, _, rfl, IV.zero _ _, (bw.setCell (by dsimp only; omega) _).setCell (by dsimp only; omega) _⟩
theorem r_parse_zero (w : World) (l : List UInt8) (hl : l.length ≤ 65536) (h : tailS l = [] ∨ (tailS l ≠ [] ∧ (tailS l).head? = some 48 ∧ (1 < (tailS l).length ∨ headM l = true))) :
  Calls Tryz.prog 72 #[strV l] w (RetIe w (.int .i64 2) 0 0) := by
 have hsz := size_v l
 have b0 : Below w.heap.size w (w.alloc (.cells #[.bool false, .slice none 0 0] 77)) := (brefl w).alloc (Nat.le_refl _) _
 rcases h with h | ⟨h0, h1, h2⟩
 ·rcases head_cases l with ⟨a, b⟩ | ⟨a, b⟩
  ·rw [h] at b
   subst b
   clear h a hl
   go_enter Tryz.func72, Tryz.ntmps72
   go_wp2
   refine bodyPost_ret (v := .tuple #[.agg #[.bool false, .slice none 0 0], .int .i64 2]) (by simp [results, Tryz.results72, go_sem, *] <;> trivial) rfl ?_
   exact ⟨_, _, _, _, rfl, IV.zero _ _, b0⟩
  ·rw [h] at b
   subst b
   clear h a hl
   go_enter Tryz.func72, Tryz.ntmps72
   go_wp2
   refine bodyPost_ret (v := .tuple #[.agg #[.bool false, .slice none 0 0], .int .i64 2]) (by simp [results, Tryz.results72, go_sem, *] <;> trivial) rfl ?_
   exact ⟨_, _, _, _, rfl, IV.zero _ _, b0⟩
 ·obtain ⟨T, hT⟩ : ∃ T, tailS l = T := ⟨_, rfl⟩
  rw [hT] at h0 h1 h2
  obtain ⟨c, r, hcr⟩ := List.exists_cons_of_ne_nil h0
  have hc : c = 48 := by rw [hcr] at h1; simpa using h1
  subst hc
  have hszT := size_v T
  have hgetT : ∀ h, (⟨T.toArray⟩ : ByteArray)[0]'h = 48 := fun h => by subst hcr; rfl
  have hTp : 0 < T.length := List.length_pos_iff.2 h0
  have htl2 := tailS_len l
  rw [hT] at htl2
  have hlp : 0 < l.length := by omega
  rcases head_cases l with ⟨a, b⟩ | ⟨a, b⟩
  ·rw [hT] at b
   have hgetl : ∀ h, (⟨l.toArray⟩ : ByteArray)[0]'h = 45 := fun h => by subst b; rfl
   have e1 : (⟨l.toArray⟩ : ByteArray).extract 1 l.length = ⟨T.toArray⟩ := by rw [ext_v, b]; simp
   have hl1 : 1 < l.length := by rw [b]; simp; exact hTp
   clear hT h1 h2 a b hcr
   by_cases h3 : 1 < T.length
   ·have h4 : (1 : Int) < (T.length : Int) := by omega
    go_enter Tryz.func72, Tryz.ntmps72
    go_wp2
    refine bodyPost_ret (v := .tuple #[.agg #[.bool false, .slice none 0 0], .int .i64 2]) (by simp [results, Tryz.results72, go_sem, *] <;> trivial) rfl ?_
    exact ⟨_, _, _, _, rfl, IV.zero _ _, b0⟩
   ·have h4 : ¬ (1 : Int) < (T.length : Int) := by omega
    go_enter Tryz.func72, Tryz.ntmps72
    go_wp2
    refine bodyPost_ret (v := .tuple #[.agg #[.bool false, .slice none 0 0], .int .i64 2]) (by simp [results, Tryz.results72, go_sem, *] <;> trivial) rfl ?_
    exact ⟨_, _, _, _, rfl, IV.zero _ _, b0⟩
  ·rw [hT] at b
   have b' : T = l := b
   subst b'
   have h3 : 1 < T.length := by
    rcases h2 with h | h
    ·exact h
    ·rw [a] at h; cases h
   have h4 : (1 : Int) < (T.length : Int) := by omega
   clear hT h1 h2 a b hcr
   go_enter Tryz.func72, Tryz.ntmps72
   go_wp2
   refine bodyPost_ret (v := .tuple #[.agg #[.bool false, .slice none 0 0], .int .i64 2]) (by simp [results, Tryz.results72, go_sem, *] <;> trivial) rfl ?_
   exact ⟨_, _, _, _, rfl, IV.zero _ _, b0⟩
theorem r_parse_ok (w : World) (l : List UInt8) (hl : l.length ≤ 65536) (hb : okZ l = true) : Calls Tryz.prog 72 #[strV l] w (RetIe w (.int .i64 0) (valZ l) l.length) := by
  obtain ⟨h0, h1, h2⟩ := okZ_parts hb
  refine (r_parse_go w l hl _ _ rfl rfl h0 h2).mono fun e w' h => ?_
  unfold RetP at h
  rw [if_pos h1] at h
  exact h
theorem r_parse_bad (w : World) (l : List UInt8) (hl : l.length ≤ 65536) (hb : okZ l = false) : Calls Tryz.prog 72 #[strV l] w (RetIe w (.int .i64 2) 0 0) := by
  rcases okZ_not hb with h | ⟨h0, h1⟩ | ⟨h0, h1, h2, h3⟩
  · exact r_parse_zero w l hl (.inl h)
  · by_cases h4 : (tailS l).head? = some 48 ∧ (1 < (tailS l).length ∨ headM l = true)
    · exact r_parse_zero w l hl (.inr ⟨h0, h4.1, h4.2⟩)
    · refine (r_parse_go w l hl _ _ rfl rfl h0 h4).mono fun e w' h => ?_
      unfold RetP at h
      rw [if_neg (by rw [h1]; simp)] at h
      exact h
  · exact r_parse_zero w l hl (.inr ⟨h0, h2, h3⟩)
end Go.Proofs.YtianjkiakkclgaaGreatDoor

/- Walks: IntegerTexts. -/
namespace Go.Proofs.YtianjkiakkclgaaGreatDoor
open Go Go.RowKit Bn
attribute [local go_sem ↓] Go.wp_at_zero Go.wp_at_succ
def errV (x : Int) : Value := if x = 0 then .nilIface else .iface 57 (.int .i64 x)
theorem errV_0 : errV 0 = .nilIface := if_pos rfl
def ParseOut (l : List UInt8) (x z : Int) : Prop := (65536 < l.length ∧ x = 4 ∧ z = 0) ∨ (l.length ≤ 65536 ∧ okZ l = false ∧ x = 2 ∧ z = 0) ∨ (l.length ≤ 65536 ∧ okZ l = true ∧ x = 0 ∧ z = valZ l)
theorem parseOut (l : List UInt8) : ∃ x z, ParseOut l x z := by
  by_cases h : 65536 < l.length
  · exact ⟨4, 0, .inl ⟨h, rfl, rfl⟩⟩
  · cases hb : okZ l
    · exact ⟨2, 0, .inr (.inl ⟨by omega, hb, rfl, rfl⟩)⟩
    · exact ⟨0, valZ l, .inr (.inr ⟨by omega, hb, rfl, rfl⟩)⟩
theorem RetIe.mono {w w' : World} {v : Value} {z : Int} {k j : Nat} {e : Ending} (h : RetIe w v z k e w') (hk : k ≤ j) : RetIe w v z j e w' := by
  obtain ⟨b, A, n, c, h1, h2, h3⟩ := h
  exact ⟨b, A, n, c, h1, h2.mono hk, h3⟩
theorem i_parse_o (w : World) (l : List UInt8) (x z : Int) (h : ParseOut l x z) : Calls Tryz.prog 60 #[strV l] w (RetIe w (errV x) z 65536) := by
  rcases h with ⟨h1, rfl, rfl⟩ | ⟨h1, h2, rfl, rfl⟩ | ⟨h1, h2, rfl, rfl⟩
  · exact (i_parse_big w l h1).mono fun e w' r => r.mono (by omega)
  · exact (i_parse_bad w l h1 h2).mono fun e w' r => r.mono (by omega)
  · exact (i_parse_ok w l h1 h2).mono fun e w' r => r.mono (by omega)
theorem r01_parse_o (w : World) (l : List UInt8) (x z : Int) (h : ParseOut l x z) : Calls Tryz.prog 72 #[strV l] w (RetIe w (.int .i64 x) z 65536) := by
  rcases h with ⟨h1, rfl, rfl⟩ | ⟨h1, h2, rfl, rfl⟩ | ⟨h1, h2, rfl, rfl⟩
  · exact (r_parse_big w l h1).mono fun e w' r => r.mono (by omega)
  · exact (r_parse_bad w l h1 h2).mono fun e w' r => r.mono (by omega)
  · exact (r_parse_ok w l h1 h2).mono fun e w' r => r.mono (by omega)
theorem b_num_v (w : World) (x : Int) : Calls Tryz.prog 13 #[errV x] w (RetV w (.int .i64 x)) := by
  unfold errV
  split
  · rename_i h; subst h; exact b_num_nil w
  · exact b_num_err w x
end Go.Proofs.YtianjkiakkclgaaGreatDoor
