/- Part AM5: lemmas and walks that the claim rests on. No claim is made here. -/
import Derived.Deep.RegionHeld3
import Derived.BigQuiet
import Derived.Deep.DrawnRows
import Derived.Laws.StructEq
import Derived.Test.YtoiijifnfdgfpaaGreatDoorAM4
set_option linter.unusedVariables false
set_option maxHeartbeats 8000000
set_option maxRecDepth 100000
/- Walks: linkages: what is wrong with one: joints, drivers, all (program). -/
namespace Go.Proofs.YtoiijifnfdgfpaaGreatDoor
open Go Go.RowKit Bn
attribute [local go_sem ↓] Go.wp_at_zero Go.wp_at_succ
theorem m_joint (w : World) (A : Option Addr) (n c : Nat) (B : Option Addr) (p d : Nat) (C : Option Addr) (q e : Nat) (nm : List UInt8) (j : JointL) (L : LinkL) (k : Nat) (h : SlS (BdAt k) 2 w A n c L.bodies) (hk : k ≤ 10000000) (hk1 : 0 < k) (hn : n ≤ 1000) (x : Int) (hx : jointE L j = x) :
    Calls Tryz.prog 103 #[.agg #[strV nm, .slice A n c, .slice B p d, .slice C q e], .agg #[strV j.name, .int .i64 j.kind, .int .i64 j.a, .int .i64 j.point, .int .i64 j.b, .int .i64 j.on, .int .i64 j.to_]] w (RetV w (errV x)) := by
  by_cases h0 : j.kind = 0
  · exact m_joint_0 w A n c B p d C q e nm j L k h hk hk1 hn h0 x hx
  · by_cases h1 : j.kind = 1
    · exact m_joint_1 w A n c B p d C q e nm j L k h hk hk1 hn h1 x hx
    · subst hx
      rw [show jointE L j = 7 from if_pos ⟨h0, h1⟩]
      exact m_joint_7 w A n c B p d C q e nm j ⟨h0, h1⟩
theorem m_joints (w : World) (A : Option Addr) (n c : Nat) (B : Option Addr) (p d : Nat) (C : Option Addr) (q e : Nat) (L : LinkL) (k : Nat) (h : LkS k w A n c B p d C q e L) (hk : k ≤ 10000000) (hk1 : 0 < k) (hn : n ≤ 1000) (x : Int) (hx : (if 16 < L.joints.length then 4 else errs (jointErr L) [] L.joints) = x) : Calls Tryz.prog 60 #[.agg #[strV L.name, .slice A n c, .slice B p d, .slice C q e]] w (RetV w (errV x)) := by
 have hln := h.joints.1
 have hlb := h.bodies.1
 by_cases h8 : 16 < p
 ·have f8 : ((16 : Int) < (p : Int)) = True := eq_true (by omega)
  have h4 : x = 4 := by rw [← hx, if_pos (by rw [hln]; exact h8)]
  clear hln hlb
  go_enter Tryz.func60, Tryz.ntmps60
  go_wp2_with fail
  go_ret
  exact ⟨by rw [h4]; rfl, (brefl w).alloc (Nat.le_refl _) _⟩
 have f8 : ((16 : Int) < (p : Int)) = False := eq_false (by omega)
 have hbd : p ≤ 16 := by omega
 rw [if_neg (by rw [hln]; exact h8)] at hx
 have hnc := h.joints.2.1
 have HX := Lib.hid (errs_start hx)
 have HLN := Lib.hid hln
 have HLB := Lib.hid hlb
 clear hx hln hlb h8
 go_enter Tryz.func60, Tryz.ntmps60
 go_wp2_with fail
 go_loopw [16] (fun iv wr => ∃ i : Nat, iv = .int .i64 (i : Nat) ∧ i ≤ p ∧ Hid (errs (jointErr L) (L.joints.take i) (L.joints.drop i) = x) ∧ Blk wr w.heap.size 36 #[strV L.name, .slice A n c, .slice B p d, .slice C q e] ∧ Below w.heap.size w wr) (fun iv _ => p - (intOf iv).toNat)
 case atStart => exact ⟨0, rfl, Nat.zero_le _, HX, blkAt _ _ _ (by simp), (brefl w).alloc (Nat.le_refl _) _⟩
 case round =>
  clear HX
  obtain ⟨i, rfl, hi, HX, xL, hb⟩ := hrel
  rename World => wa
  rcases Nat.lt_or_ge i p with hlt | hge
  ·have hi1 : ((i : Int) < (p : Int)) = True := by simp; omega
   have hL := h.belw hb
   obtain ⟨g, o, b, e1, hg, _, hbi, hB⟩ := hL.joints.at_ hlt
   subst e1
   have hstep := errs_step HX.out hbi
   obtain ⟨c0, c1, c2, c3, c4, c5, c6, hnm⟩ := hB
   have HL := Lib.hid hL
   have HS := Lib.hid hstep
   have HN := Lib.hid hnm
   obtain ⟨v, hv⟩ : ∃ v, nameOk b.name = v := ⟨_, rfl⟩
   have HV := Lib.hid hv
   have hlL : w.heap.size < wa.heap.size := xL.lt
   clear h hL hstep hnm hbi hv HX
   go_wp2_with fail
   (with_reducible refine (t_name _ b.name HN.out v HV.out).mono ?_); rintro e' w1 ⟨rfl, hb1⟩
   have q1 := hb1.q1
   have x1 : Blk w1 wa.heap.size 60 #[strV b.name, .int .i64 b.kind, .int .i64 b.a, .int .i64 b.point, .int .i64 b.b, .int .i64 b.on, .int .i64 b.to_] := (blkAt _ _ _ (by simp)).below hb1 (by simp)
   have xL1 := xL.below q1 xL.lt
   have bw1 := hb.trans (q1.mono hb.size)
   clear hb1 c0 c1 c2 c3 c4 c5 c6
   have hxz : ∀ z : Int, z ≠ 0 → (jointErr L) (L.joints.take i) b = z → x = z := fun z hz hm => by
    rcases HS.out with ⟨u, _⟩ | ⟨_, u⟩
    ·exact absurd (hm.symm.trans u) hz
    ·exact u.symm.trans hm
   cases v
   ·have h5 : x = 5 := hxz 5 (by decide) (if_pos HV.out)
    clear hxz
    go_wp2_with fail
    go_ret
    exact ⟨by rw [h5]; rfl, bw1⟩
   ·have HXZ := Lib.hid hxz
    clear hxz
    have cL := xL1.cell 2
    go_wp2_with fail
    clear cL
    go_loopw [31] (fun jv wr => ∃ j : Nat, jv = .int .i64 (j : Nat) ∧ j ≤ i ∧ Hid (twN ((L.joints.take j).map JointL.name) b.name = false) ∧ Below w1.heap.size w1 wr) (fun jv _ => i - (intOf jv).toNat)
    case atStart => exact ⟨0, rfl, Nat.zero_le _, Lib.hid rfl, brefl w1⟩
    case round =>
     obtain ⟨j, rfl, hj, HT, hb2⟩ := hrel
     rename World => w2
     have x2 := x1.below hb2 x1.lt
     have xL2 := xL1.below hb2 xL1.lt
     have bw2 := bw1.trans (hb2.mono bw1.size)
     have cB0 := x2.cell 0
     have hlw : wa.heap.size < w2.heap.size := x2.lt
     have hlL2 : w.heap.size < w2.heap.size := xL2.lt
     rcases Nat.lt_or_ge j i with hjl | hjg
     ·have hj1 : ((j : Int) < (i : Int)) = True := by simp; omega
      have hjn : j < p := by omega
      obtain ⟨a, ha, hA⟩ := ((HL.out.joints.jt q1).jt hb2).rowAt hjn
      obtain ⟨d0, d1, d2, d3, d4, d5, d6, hn2⟩ := hA
      have hgw : g < w2.heap.size := by have := hb2.size; have := q1.size; omega
      clear hn2
      have hne1 : ¬ wa.heap.size = w2.heap.size := by omega
      have hne2 : ¬ g = w2.heap.size := by omega
      have htl := toList_v b.name
      by_cases heq : a.name = b.name
      ·have h6 : x = 6 := HXZ.out 6 (by decide) (by
        show jointErr L (L.joints.take i) b = 6
        unfold jointErr
        rw [HV.out, if_neg (by decide), if_pos (twM_hit ha hjl heq)])
       rw [heq] at d0
       have hee : (b.name == b.name) = true := by simp
       clear heq ha
       go_wp2_with fail
       go_ret
       exact ⟨by rw [h6]; rfl, bw2.alloc bw2.size _⟩
      ·have hta := toList_v a.name
       have HT2 := Lib.hid (twM_step ha HT.out heq)
       have hee : (a.name == b.name) = false := beq_eq_false_iff_ne.2 heq
       clear heq ha HT
       go_wp2_with fail
       go_roundw
       case rel => exact ⟨j + 1, by go_num, by omega, HT2, hb2.alloc hb2.size _⟩
       case measure => simp [intOf]; omega
     ·have hj1 : ((j : Int) < (i : Int)) = False := by simp; omega
      obtain rfl : j = i := by omega
      clear cB0
      have cL0 := xL2.cell 0
      have cL1 := xL2.cell 1
      have cL2 := xL2.cell 2
      have cL3 := xL2.cell 3
      have z0 := x2.cell 0
      have z1 := x2.cell 1
      have z2 := x2.cell 2
      have z3 := x2.cell 3
      have z4 := x2.cell 4
      have z5 := x2.cell 5
      have z6 := x2.cell 6
      obtain ⟨y, hy⟩ : ∃ y, jointE L b = y := ⟨_, rfl⟩
      have HE : Hid (jointErr L (L.joints.take j) b = y) := Lib.hid (by
       unfold jointErr
       rw [HV.out, if_neg (by decide), HT.out, if_neg (by decide)]; exact hy)
      have HY := Lib.hid hy
      clear hy
      go_wp2_with fail
      (with_reducible refine (m_joint _ A n c _ p d C q e L.name b L k ((HL.out.bodies.bd q1).bd hb2) hk hk1 hn y HY.out).mono ?_); rintro e' w3 ⟨rfl, hb3⟩
      have bw3 := bw2.trans (hb3.mono bw2.size)
      have xL3 := xL2.below hb3 xL2.lt
      clear cL0 cL1 cL2 cL3 z0 z1 z2 z3 z4 z5 z6
      by_cases hy0 : y = 0
      ·have HX2 : Hid (errs (jointErr L) (L.joints.take (j + 1)) (L.joints.drop (j + 1)) = x) := Lib.hid (by
        rcases HS.out with ⟨_, u⟩ | ⟨u, _⟩
        ·exact u
        ·exact absurd (HE.out.trans hy0) u)
       subst hy0
       rw [show errV 0 = .nilIface from if_pos rfl]
       go_wp2_with fail
       go_roundw
       case rel => exact ⟨j + 1, by go_num, by omega, HX2, xL3, bw3⟩
       case measure => simp [intOf]; omega
      ·have hxy : x = y := HXZ.out y hy0 HE.out
       rw [show errV y = .iface 63 (.int .i64 y) from if_neg hy0]
       go_wp2_with fail
       go_ret
       exact ⟨by rw [hxy, show errV y = .iface 63 (.int .i64 y) from if_neg hy0]; rfl, bw3⟩
  ·have hi1 : ((i : Int) < (p : Int)) = False := by simp; omega
   have hx0 : x = 0 := errs_end HX.out (by rw [HLN.out]; exact hge)
   go_wp2_with fail
   go_ret
   exact ⟨by rw [hx0]; rfl, hb⟩
theorem m_drivers (w : World) (A : Option Addr) (n c : Nat) (B : Option Addr) (p d : Nat) (C : Option Addr) (q e : Nat) (L : LinkL) (k : Nat) (h : LkS k w A n c B p d C q e L) (hk : k ≤ 10000000) (hk1 : 0 < k) (hn : n ≤ 1000) (x : Int) (hx : (if 2 < L.drivers.length then 4 else errs (driverErr n) [] L.drivers) = x) : Calls Tryz.prog 61 #[.agg #[strV L.name, .slice A n c, .slice B p d, .slice C q e]] w (RetV w (errV x)) := by
 have hln := h.drivers.1
 have hlb := h.bodies.1
 by_cases h8 : 2 < q
 ·have f8 : ((2 : Int) < (q : Int)) = True := eq_true (by omega)
  have h4 : x = 4 := by rw [← hx, if_pos (by rw [hln]; exact h8)]
  clear hln hlb
  go_enter Tryz.func61, Tryz.ntmps61
  go_wp2_with fail
  go_ret
  exact ⟨by rw [h4]; rfl, (brefl w).alloc (Nat.le_refl _) _⟩
 have f8 : ((2 : Int) < (q : Int)) = False := eq_false (by omega)
 have hbd : q ≤ 2 := by omega
 rw [if_neg (by rw [hln]; exact h8)] at hx
 have hnc := h.drivers.2.1
 have HX := Lib.hid (errs_start hx)
 have HLN := Lib.hid hln
 have HLB := Lib.hid hlb
 clear hx hln hlb h8
 go_enter Tryz.func61, Tryz.ntmps61
 go_wp2_with fail
 go_loopw [17] (fun iv wr => ∃ i : Nat, iv = .int .i64 (i : Nat) ∧ i ≤ q ∧ Hid (errs (driverErr n) (L.drivers.take i) (L.drivers.drop i) = x) ∧ Blk wr w.heap.size 36 #[strV L.name, .slice A n c, .slice B p d, .slice C q e] ∧ Below w.heap.size w wr) (fun iv _ => q - (intOf iv).toNat)
 case atStart => exact ⟨0, rfl, Nat.zero_le _, HX, blkAt _ _ _ (by simp), (brefl w).alloc (Nat.le_refl _) _⟩
 case round =>
  clear HX
  obtain ⟨i, rfl, hi, HX, xL, hb⟩ := hrel
  rename World => wa
  rcases Nat.lt_or_ge i q with hlt | hge
  ·have hi1 : ((i : Int) < (q : Int)) = True := by simp; omega
   have hL := h.belw hb
   obtain ⟨g, o, b, e1, hg, _, hbi, hB⟩ := hL.drivers.at_ hlt
   subst e1
   have hstep := errs_step HX.out hbi
   obtain ⟨c0, c1, hnm⟩ := hB
   have HL := Lib.hid hL
   have HS := Lib.hid hstep
   have HN := Lib.hid hnm
   obtain ⟨v, hv⟩ : ∃ v, nameOk b.name = v := ⟨_, rfl⟩
   have HV := Lib.hid hv
   have hlL : w.heap.size < wa.heap.size := xL.lt
   clear h hL hstep hnm hbi hv HX
   go_wp2_with fail
   (with_reducible refine (t_name _ b.name HN.out v HV.out).mono ?_); rintro e' w1 ⟨rfl, hb1⟩
   have q1 := hb1.q1
   have x1 : Blk w1 wa.heap.size 58 #[strV b.name, .int .i64 b.body] := (blkAt _ _ _ (by simp)).below hb1 (by simp)
   have xL1 := xL.below q1 xL.lt
   have bw1 := hb.trans (q1.mono hb.size)
   clear hb1 c0 c1
   have hxz : ∀ z : Int, z ≠ 0 → (driverErr n) (L.drivers.take i) b = z → x = z := fun z hz hm => by
    rcases HS.out with ⟨u, _⟩ | ⟨_, u⟩
    ·exact absurd (hm.symm.trans u) hz
    ·exact u.symm.trans hm
   cases v
   ·have h5 : x = 5 := hxz 5 (by decide) (if_pos HV.out)
    clear hxz
    go_wp2_with fail
    go_ret
    exact ⟨by rw [h5]; rfl, bw1⟩
   ·have HXZ := Lib.hid hxz
    clear hxz
    have cL := xL1.cell 3
    go_wp2_with fail
    clear cL
    go_loopw [32] (fun jv wr => ∃ j : Nat, jv = .int .i64 (j : Nat) ∧ j ≤ i ∧ Hid (twN ((L.drivers.take j).map DriverL.name) b.name = false) ∧ Below w1.heap.size w1 wr) (fun jv _ => i - (intOf jv).toNat)
    case atStart => exact ⟨0, rfl, Nat.zero_le _, Lib.hid rfl, brefl w1⟩
    case round =>
     obtain ⟨j, rfl, hj, HT, hb2⟩ := hrel
     rename World => w2
     have x2 := x1.below hb2 x1.lt
     have xL2 := xL1.below hb2 xL1.lt
     have bw2 := bw1.trans (hb2.mono bw1.size)
     have cB0 := x2.cell 0
     have hlw : wa.heap.size < w2.heap.size := x2.lt
     have hlL2 : w.heap.size < w2.heap.size := xL2.lt
     rcases Nat.lt_or_ge j i with hjl | hjg
     ·have hj1 : ((j : Int) < (i : Int)) = True := by simp; omega
      have hjn : j < q := by omega
      obtain ⟨a, ha, hA⟩ := ((HL.out.drivers.dr q1).dr hb2).rowAt hjn
      obtain ⟨d0, d1, hn2⟩ := hA
      have hgw : g < w2.heap.size := by have := hb2.size; have := q1.size; omega
      clear hn2
      have hne1 : ¬ wa.heap.size = w2.heap.size := by omega
      have hne2 : ¬ g = w2.heap.size := by omega
      have htl := toList_v b.name
      by_cases heq : a.name = b.name
      ·have h6 : x = 6 := HXZ.out 6 (by decide) (by
        show driverErr n (L.drivers.take i) b = 6
        unfold driverErr
        rw [HV.out, if_neg (by decide), if_pos (twM_hit ha hjl heq)])
       rw [heq] at d0
       have hee : (b.name == b.name) = true := by simp
       clear heq ha
       go_wp2_with fail
       go_ret
       exact ⟨by rw [h6]; rfl, bw2.alloc bw2.size _⟩
      ·have hta := toList_v a.name
       have HT2 := Lib.hid (twM_step ha HT.out heq)
       have hee : (a.name == b.name) = false := beq_eq_false_iff_ne.2 heq
       clear heq ha HT
       go_wp2_with fail
       go_roundw
       case rel => exact ⟨j + 1, by go_num, by omega, HT2, hb2.alloc hb2.size _⟩
       case measure => simp [intOf]; omega
     ·have hj1 : ((j : Int) < (i : Int)) = False := by simp; omega
      obtain rfl : j = i := by omega
      clear cB0
      have cL1 := xL2.cell 1
      have z1 := x2.cell 1
      obtain ⟨v1, hv1⟩ : ∃ v, inI b.body n = v := ⟨_, rfl⟩
      have HV1 := Lib.hid hv1
      have HT9 := HT
      clear hv1
      go_wp2_with fail
      (with_reducible refine (m_in _ b.body n v1 HV1.out).mono ?_); rintro e' w3 ⟨rfl, hb3⟩
      have bw3 := bw2.trans (hb3.mono bw2.size)
      have xL3 := xL2.below hb3 xL2.lt
      have x3 := x2.below hb3 x2.lt
      clear cL1 z1
      cases v1
      ·have h9 : x = 9 := HXZ.out 9 (by decide) (by
        show driverErr n (L.drivers.take j) b = 9
        unfold driverErr
        rw [HV.out, if_neg (by decide), HT9.out, if_neg (by decide), if_pos HV1.out])
       go_wp2_with fail
       go_ret
       exact ⟨by rw [h9]; rfl, bw3⟩
      have z1 := x3.cell 1
      have cL3 := xL3.cell 3
      have hl3 : wa.heap.size < w3.heap.size := x3.lt
      by_cases hb0 : b.body = 0
      ·have e0 : (b.body == 0) = true := beq_iff_eq.2 hb0
       have h7 : x = 7 := HXZ.out 7 (by decide) (by
        show driverErr n (L.drivers.take j) b = 7
        unfold driverErr
        rw [HV.out, if_neg (by decide), HT9.out, if_neg (by decide), HV1.out, if_neg (by decide), if_pos hb0])
       clear hb0
       go_wp2_with fail
       go_ret
       exact ⟨by rw [h7]; rfl, bw3⟩
      have e0 : (b.body == 0) = false := beq_eq_false_iff_ne.2 hb0
      have HB0 := Lib.hid hb0
      clear hb0
      go_wp2_with fail
      clear z1 cL3
      go_loopw [60] (fun jv wr => ∃ r : Nat, jv = .int .i64 (r : Nat) ∧ r ≤ j ∧ Hid (((L.drivers.take r).any fun p => p.body == b.body) = false) ∧ Below w3.heap.size w3 wr) (fun jv _ => j - (intOf jv).toNat)
      case atStart => exact ⟨0, rfl, Nat.zero_le _, Lib.hid rfl, brefl w3⟩
      case round =>
       obtain ⟨r, rfl, hr, HR, hb4⟩ := hrel
       rename World => w4
       have x4 := x3.below hb4 x3.lt
       have xL4 := xL3.below hb4 xL3.lt
       have bw4 := bw3.trans (hb4.mono bw3.size)
       have z1 := x4.cell 1
       have hl4 : wa.heap.size < w4.heap.size := x4.lt
       rcases Nat.lt_or_ge r j with hrl | hrg
       ·have hr1 : ((r : Int) < (j : Int)) = True := by simp; omega
        have hrn : r < q := by omega
        obtain ⟨a, ha, hA⟩ := ((((HL.out.drivers.dr q1).dr hb2).dr hb3).dr hb4).rowAt hrn
        obtain ⟨d0, d1, hn2⟩ := hA
        have hgw : g < w4.heap.size := by have := hb4.size; have := hb3.size; have := hb2.size; have := q1.size; omega
        clear hn2
        have hne1 : ¬ wa.heap.size = w4.heap.size := by omega
        have hne2 : ¬ g = w4.heap.size := by omega
        have ht4 : L.drivers.take (r + 1) = L.drivers.take r ++ [a] := by rw [List.take_add_one, ha]; rfl
        by_cases heq : a.body = b.body
        ·have h6 : x = 6 := HXZ.out 6 (by decide) (by
          show driverErr n (L.drivers.take j) b = 6
          unfold driverErr
          rw [HV.out, if_neg (by decide), HT9.out, if_neg (by decide), HV1.out, if_neg (by decide), if_neg HB0.out, if_pos]
          rw [List.any_eq_true]
          exact ⟨a, List.mem_of_getElem? (i := r) (by rw [List.getElem?_take, if_pos hrl]; exact ha), by simpa using heq⟩)
         have hee : (a.body == b.body) = true := beq_iff_eq.2 heq
         clear heq ha ht4
         go_wp2_with fail
         go_ret
         exact ⟨by rw [h6]; rfl, bw4.alloc bw4.size _⟩
        ·have HR2 : Hid (((L.drivers.take (r + 1)).any fun p => p.body == b.body) = false) := Lib.hid (by
          rw [ht4, List.any_append, HR.out]
          simpa using heq)
         have hee : (a.body == b.body) = false := beq_eq_false_iff_ne.2 heq
         clear heq ha ht4 HR
         go_wp2_with fail
         go_roundw
         case rel => exact ⟨r + 1, by go_num, by omega, HR2, hb4.alloc hb4.size _⟩
         case measure => simp [intOf]; omega
       ·have hr1 : ((r : Int) < (j : Int)) = False := by simp; omega
        obtain rfl : r = j := by omega
        have h0 : driverErr n (L.drivers.take r) b = 0 := by
         unfold driverErr
         rw [HV.out, if_neg (by decide), HT9.out, if_neg (by decide), HV1.out, if_neg (by decide), if_neg HB0.out, HR.out]
         rfl
        have HX2 : Hid (errs (driverErr n) (L.drivers.take (r + 1)) (L.drivers.drop (r + 1)) = x) := Lib.hid (by
         rcases HS.out with ⟨_, u⟩ | ⟨u, _⟩
         ·exact u
         ·exact absurd h0 u)
        clear h0 z1
        go_wp2_with fail
        go_roundw
        case rel => exact ⟨r + 1, by go_num, by omega, HX2, xL4, bw4⟩
        case measure => simp [intOf]; omega
  ·have hi1 : ((i : Int) < (q : Int)) = False := by simp; omega
   have hx0 : x = 0 := errs_end HX.out (by rw [HLN.out]; exact hge)
   go_wp2_with fail
   go_ret
   exact ⟨by rw [hx0]; rfl, hb⟩
end Go.Proofs.YtoiijifnfdgfpaaGreatDoor

/- Walks: linkages: what is wrong with one (program). -/
namespace Go.Proofs.YtoiijifnfdgfpaaGreatDoor
open Go Go.RowKit Bn
attribute [local go_sem ↓] Go.wp_at_zero Go.wp_at_succ
theorem eVp {x : Int} (h : x ≠ 0) : errV x = .iface 63 (.int .i64 x) := if_neg h
theorem eV0 : errV 0 = .nilIface := if_pos rfl
theorem m_check (w : World) (A : Option Addr) (n c : Nat) (B : Option Addr) (p d : Nat) (C : Option Addr) (q e : Nat) (L : LinkL) (k : Nat) (h : LkS k w A n c B p d C q e L) (hk : k ≤ 10000000) (hk1 : 0 < k) (x : Int) (hx : lkErr L = x) :
  Calls Tryz.prog 21 #[.agg #[strV L.name, .slice A n c, .slice B p d, .slice C q e]] w (RetV w (errV x)) := by
 have hln := h.bodies.1
 obtain ⟨v, hv⟩ : ∃ v, nameOk L.name = v := ⟨_, rfl⟩
 have HV := Lib.hid hv
 have HX := Lib.hid hx
 have HL := Lib.hid hln
 have H := Lib.hid h
 clear hv hx hln h
 go_enter Tryz.func21, Tryz.ntmps21
 go_wp2_with fail
 (with_reducible refine (t_name _ L.name H.out.name v HV.out).mono ?_); rintro e' w1 ⟨rfl, hb1⟩
 have q1 := hb1.q1
 have x1 : Blk w1 w.heap.size 36 #[strV L.name, .slice A n c, .slice B p d, .slice C q e] := (blkAt _ _ _ (by simp)).below hb1 (by simp)
 clear hb1
 cases v
 ·have h5 : x = 5 := by rw [← HX.out]; unfold lkErr; rw [if_pos HV.out]
  go_wp2_with fail
  go_ret
  exact ⟨by rw [h5]; rfl, q1⟩
 have hX1 : x = if n = 0 then 10 else if 8 < n then 4 else if errs bodyErr [] L.bodies ≠ 0 then errs bodyErr [] L.bodies
   else if 16 < L.joints.length then 4 else if errs (jointErr L) [] L.joints ≠ 0 then errs (jointErr L) [] L.joints
   else if 2 < L.drivers.length then 4 else errs (driverErr n) [] L.drivers := by
  rw [← HX.out]; unfold lkErr; rw [if_neg (by rw [HV.out]; decide), HL.out]
 obtain ⟨y1, hy1⟩ : ∃ y, errs bodyErr [] L.bodies = y := ⟨_, rfl⟩
 obtain ⟨y2, hy2⟩ : ∃ y, (if 16 < L.joints.length then (4 : Int) else errs (jointErr L) [] L.joints) = y := ⟨_, rfl⟩
 obtain ⟨y3, hy3⟩ : ∃ y, (if 2 < L.drivers.length then (4 : Int) else errs (driverErr n) [] L.drivers) = y := ⟨_, rfl⟩
 have hX2 : x = if n = 0 then 10 else if 8 < n then 4 else if y1 ≠ 0 then y1 else if y2 ≠ 0 then y2 else y3 := by
  rw [hX1, hy1, ← hy2, ← hy3]
  by_cases a : 16 < L.joints.length
  ·simp [a]
  ·simp [a]
 have HX2 := Lib.hid hX2
 have HY1 := Lib.hid hy1
 have HY2 := Lib.hid hy2
 have HY3 := Lib.hid hy3
 clear hX1 hX2 hy1 hy2 hy3
 have cx1 := x1.cell 1
 by_cases h0 : n = 0
 ·have e0 : ((n : Int) == 0) = true := beq_iff_eq.2 (by omega)
  have e00 : ((n : Int) = 0) = True := eq_true (by omega)
  have h10 : x = 10 := by rw [HX2.out, if_pos h0]
  clear h0
  go_wp2_with fail
  go_ret
  exact ⟨by rw [h10]; rfl, q1⟩
 have e0 : ((n : Int) == 0) = false := beq_eq_false_iff_ne.2 (by omega)
 have e00 : ((n : Int) = 0) = False := eq_false (by omega)
 by_cases h8 : 8 < n
 ·have e8 : ((8 : Int) < (n : Int)) = True := eq_true (by omega)
  have h4 : x = 4 := by rw [HX2.out, if_neg h0, if_pos h8]
  go_wp2_with fail
  go_ret
  exact ⟨by rw [h4]; rfl, q1⟩
 have e8 : ((8 : Int) < (n : Int)) = False := eq_false (by omega)
 have hX3 : x = if y1 ≠ 0 then y1 else if y2 ≠ 0 then y2 else y3 := by rw [HX2.out, if_neg h0, if_neg h8]
 have HX3 := Lib.hid hX3
 clear hX3 h0
 go_wp2_with fail
 (with_reducible refine (m_bodies _ A n c L.bodies k (H.out.bodies.bd q1) (by omega) (by omega) y1 HY1.out).mono ?_); rintro e' w2 ⟨rfl, hb2⟩
 have q2 := q1.trans (hb2.mono q1.size)
 have x2 := x1.below hb2 x1.lt
 clear cx1
 by_cases h1 : y1 = 0
 case neg =>
  have hxy : x = y1 := by rw [HX3.out, if_pos h1]
  rw [eVp h1]
  go_wp2_with fail
  go_ret
  exact ⟨by rw [hxy, eVp h1]; rfl, q2⟩
 have hX4 : x = if y2 ≠ 0 then y2 else y3 := by rw [HX3.out, if_neg (by simp [h1])]
 have HX4 := Lib.hid hX4
 clear hX4
 subst h1
 rw [eV0]
 have cx0 := x2.cell 0
 have cx1 := x2.cell 1
 have cx2 := x2.cell 2
 have cx3 := x2.cell 3
 go_wp2_with fail
 (with_reducible refine (m_joints _ A n c B p d C q e L k (H.out.belw q2) hk hk1 (by omega) y2 HY2.out).mono ?_); rintro e' w3 ⟨rfl, hb3⟩
 have q3 := q2.trans (hb3.mono q2.size)
 have x3 := x2.below hb3 x2.lt
 clear cx0 cx1 cx2 cx3
 by_cases h2 : y2 = 0
 case neg =>
  have hxy : x = y2 := by rw [HX4.out, if_pos h2]
  rw [eVp h2]
  go_wp2_with fail
  go_ret
  exact ⟨by rw [hxy, eVp h2]; rfl, q3⟩
 have hX5 : x = y3 := by rw [HX4.out, if_neg (by simp [h2])]
 subst hX5
 subst h2
 rw [eV0]
 have cx0 := x3.cell 0
 have cx1 := x3.cell 1
 have cx2 := x3.cell 2
 have cx3 := x3.cell 3
 go_wp2_with fail
 (with_reducible refine (m_drivers _ A n c B p d C q e L k (H.out.belw q3) hk hk1 (by omega) x HY3.out).mono ?_); rintro e' w4 ⟨rfl, hb4⟩
 have q4 := q3.trans (hb4.mono q3.size)
 clear cx0 cx1 cx2 cx3
 go_wp2_with fail
 go_ret
 exact ⟨rfl, q4⟩
end Go.Proofs.YtoiijifnfdgfpaaGreatDoor

/- The reader's block: the tokens that are left, and its other cells. -/
namespace Go.Proofs.YtoiijifnfdgfpaaGreatDoor
open Go Go.RowKit Bn
attribute [local go_sem ↓] Go.wp_at_zero Go.wp_at_succ
/-! Only the block gr has turned. -/
section
variable {w w' w2 : World} {gr : Nat}
theorem rg_refl (gr : Nat) (w : World) : w.grownBy w (some gr) := ⟨rfl, rfl, rfl, Nat.le_refl _, fun _ _ _ => rfl⟩
theorem rg_trans (h : w.grownBy w' (some gr)) (k : w'.grownBy w2 (some gr)) : w.grownBy w2 (some gr) :=
  ⟨k.os.trans h.os, k.tape.trans h.tape, k.output.trans h.output, Nat.le_trans h.size k.size, fun i hi hne => (k.block i (Nat.lt_of_lt_of_le hi h.size) hne).trans (h.block i hi hne)⟩
theorem rg_set (h : w.grownBy w' (some gr)) (i : Nat) (u : Value) : w.grownBy (w'.setCell ⟨gr, i, none⟩ u) (some gr) :=
  rg_trans h ⟨rfl, rfl, rfl, by simp [World.setCell], fun k _ hne => Below.heap_setCell w' ⟨gr, i, none⟩ u k (fun e => hne (by rw [e]))⟩
theorem rg_below (h : w.grownBy w' (some gr)) (k : Below w'.heap.size w' w2) : w.grownBy w2 (some gr) :=
  rg_trans h ⟨k.os, k.tape, k.output, k.size, fun i hi _ => k.block i hi⟩
theorem rg_alloc (h : w.grownBy w' (some gr)) (o : Obj) : w.grownBy (w'.alloc o) (some gr) := rg_below h ((Below.refl _ _).alloc (Nat.le_refl _) o)
theorem rg_bel {B : Nat} (h : w.grownBy w' (some gr)) (hB : B ≤ w.heap.size) (hg : B ≤ gr) : Below B w w' := (Below.refl B w).grown h hB (fun k e => by injection e with e; omega)
theorem rg_blk {g t : Nat} {cs : Array Value} (h : w.grownBy w' (some gr)) (x : Blk w g t cs) (hne : g ≠ gr) : Blk w' g t cs := (h.block g x.lt (fun e => hne (by injection e))).trans x
theorem rg_blks {g t : Nat} {cs : Array Value} (h : w.grownBy w' (some gr)) (x : w.heap[g]? = some (.cells cs t (0, 0))) (hne : g ≠ gr) : w'.heap[g]? = some (.cells cs t (0, 0)) := (h.block g (lt_of_block x) (fun e => hne (by injection e))).trans x
end
def TkA (B : Nat) (w : World) (A : Option Addr) (n c : Nat) (l : List Tkn) : Prop := l.length = n ∧ n ≤ c ∧ (0 < n → ∃ g o, A = some ⟨g, o, none⟩ ∧ g < B ∧ ∀ i v, (tokCs l)[i]? = some v → w.cell? ⟨g, o + i, none⟩ = some v)
def MxA (B : Nat) (w : World) : Prop := 0 < B ∧ Mx w
section
variable {B : Nat} {w w' : World} {A : Option Addr} {n c gr : Nat} {l : List Tkn}
theorem TkA.rg (h : TkA B w A n c l) (hB : B ≤ gr) (k : w.grownBy w' (some gr)) : TkA B w' A n c l := by
  refine ⟨h.1, h.2.1, fun hn => ?_⟩
  obtain ⟨g, o, e, hg, hc⟩ := h.2.2 hn
  exact ⟨g, o, e, hg, fun i v hv => k.cell (hc i v hv) (fun e => by injection e with e; simp only at e; omega)⟩
theorem TkA.belB (h : TkA B w A n c l) (k : Below B w w') : TkA B w' A n c l := by
  refine ⟨h.1, h.2.1, fun hn => ?_⟩
  obtain ⟨g, o, e, hg, hc⟩ := h.2.2 hn
  exact ⟨g, o, e, hg, fun i v hv => (k.cell (p := ⟨g, o + i, none⟩) hg).trans (hc i v hv)⟩
theorem TkA.of_tks (h : TkS w A n c l) : TkA w.heap.size w A n c l := by
  refine ⟨h.1, ?_, fun hn => ?_⟩
  · rcases h.2 with ⟨h1, _, h3⟩ | ⟨g, _, h1, _⟩
    · omega
    · exact h1
  · rcases h.2 with ⟨h1, _, h3⟩ | ⟨g, e, h1, hc⟩
    · omega
    · have hl : 0 < (tokCs l).length := by rw [tokCs_len, h.1]; omega
      have h0 : (tokCs l)[0]? = some ((tokCs l)[0]'hl) := List.getElem?_eq_getElem hl
      exact ⟨g, 0, e, World.block_lt_of_cell? w ⟨g, 0, none⟩ (hc 0 _ h0), fun i v hv => by rw [Nat.zero_add]; exact hc i v hv⟩
theorem TkA.head {t : Tkn} (h : TkA B w A n c (t :: l)) : ∃ g o, A = some ⟨g, o, none⟩ ∧ g < B ∧ w.cell? ⟨g, o, none⟩ = some (.int .i64 (t.kind : Nat)) ∧ w.cell? ⟨g, o + 1, none⟩ = some (strV t.text) ∧ w.cell? ⟨g, o + 2, none⟩ = some (.int .i64 (t.line : Nat)) ∧ w.cell? ⟨g, o + 3, none⟩ = some (.int .i64 (t.col : Nat)) := by
  obtain ⟨g, o, e, hg, hc⟩ := h.2.2 (by rw [← h.1]; simp)
  exact ⟨g, o, e, hg, hc 0 _ rfl, hc 1 _ rfl, hc 2 _ rfl, hc 3 _ rfl⟩
theorem TkA.tail {t : Tkn} {A' : Option Addr} {n' c' : Nat} (h : TkA B w A n c (t :: l)) (hA : A' = if c = 1 then A else A.map (·.add 4)) (hn : n' = n - 1) (hc : c' = c - 1) : TkA B w A' n' c' l := by
  subst hn hc
  have hl : l.length + 1 = n := by rw [← h.1]; simp
  refine ⟨by omega, by have := h.2.1; omega, fun hn => ?_⟩
  obtain ⟨g, o, e, hg, hc⟩ := h.2.2 (by omega)
  have hc1 : ¬ c = 1 := by have := h.2.1; omega
  rw [if_neg hc1, e] at hA
  refine ⟨g, o + 4, hA, hg, fun i v hv => ?_⟩
  have h1 : (tokCs (t :: l))[i + 4]? = some v := by
    have : tokCs (t :: l) = tokC t ++ tokCs l := rfl
    rw [this, List.getElem?_append_right (by simp [tokC])]
    simpa [tokC] using hv
  have := hc _ _ h1
  rwa [show o + (i + 4) = o + 4 + i by omega] at this
theorem MxA.rg (h : MxA B w) (hB : B ≤ gr) (k : w.grownBy w' (some gr)) : MxA B w' := by
  obtain ⟨h1, m, hm⟩ := h
  exact ⟨h1, m, k.cell hm (fun e => by injection e with e; simp only at e; omega)⟩
theorem MxA.belB (h : MxA B w) (k : Below B w w') : MxA B w' := by
  obtain ⟨h1, m, hm⟩ := h
  exact ⟨h1, m, (k.cell (p := ⟨_, 0, none⟩) h1).trans hm⟩
theorem MxA.out (h : MxA B w) : Mx w := h.2
theorem MxA.of_mx (h : Mx w) : MxA w.heap.size w := by
  obtain ⟨m, hm⟩ := h
  exact ⟨World.block_lt_of_cell? w ⟨_, 0, none⟩ hm, m, hm⟩
end
structure RdP (B : Nat) (w : World) (gr : Nat) (c1 c2 c3 c4 : Value) (s : PS) : Prop where
  blk : ∃ A n c, Blk w gr 100 #[.slice A n c, c1, c2, c3, c4, errV s.x] ∧ TkA B w A n c s.toks
  mx : MxA B w
  hB : B ≤ gr
  len : s.toks.length ≤ 65536
  txt : ∀ t ∈ s.toks, NmL t.text
  hw : noW c1 = true ∧ noW c2 = true ∧ noW c3 = true ∧ noW c4 = true
def RetR (B : Nat) (w : World) (gr : Nat) (c1 c2 c3 c4 : Value) (v : Value) (s : PS) (e : Ending) (w' : World) : Prop := e = .returned v ∧ RdP B w' gr c1 c2 c3 c4 s ∧ w.grownBy w' (some gr)
section
variable {B : Nat} {w w' : World} {gr : Nat} {c1 c2 c3 c4 : Value} {s : PS}
theorem RdP.lt (h : RdP B w gr c1 c2 c3 c4 s) : gr < w.heap.size := by obtain ⟨A, n, c, hb, _⟩ := h.blk; exact hb.lt
theorem RdP.bel1 (h : RdP B w gr c1 c2 c3 c4 s) (k : Below (gr + 1) w w') : RdP B w' gr c1 c2 c3 c4 s := by
  obtain ⟨A, n, c, hb, ht⟩ := h.blk
  have hB := h.hB
  have k' : Below B w w' := k.mono (by omega)
  exact ⟨⟨A, n, c, hb.below k (by omega), ht.belB k'⟩, h.mx.belB k', h.hB, h.len, h.txt, h.hw⟩
theorem RdP.belw (h : RdP B w gr c1 c2 c3 c4 s) (k : Below w.heap.size w w') : RdP B w' gr c1 c2 c3 c4 s := by
  obtain ⟨A, n, c, hb, ht⟩ := h.blk
  have hlt := hb.lt
  have hB := h.hB
  have k' : Below B w w' := k.mono (by omega)
  exact ⟨⟨A, n, c, hb.below k hlt, ht.belB k'⟩, h.mx.belB k', h.hB, h.len, h.txt, h.hw⟩
theorem RdP.alloc (h : RdP B w gr c1 c2 c3 c4 s) (o : Obj) : RdP B (w.alloc o) gr c1 c2 c3 c4 s := h.belw ((Below.refl _ _).alloc (Nat.le_refl _) o)
theorem RdP.far (h : RdP B w gr c1 c2 c3 c4 s) {p : Addr} (hp : gr < p.block) (u : Value) : RdP B (w.setCell p u) gr c1 c2 c3 c4 s := by
  obtain ⟨A, n, c, hb, ht⟩ := h.blk
  have hB := h.hB
  have k' : Below B w (w.setCell p u) := (Below.refl B w).setCell (by omega) u
  exact ⟨⟨A, n, c, hb.far (by omega) u, ht.belB k'⟩, h.mx.belB k', h.hB, h.len, h.txt, h.hw⟩
theorem rg_bel1 {w2 : World} (h : w.grownBy w' (some gr)) (k : Below w.heap.size w' w2) : w.grownBy w2 (some gr) :=
  ⟨k.os.trans h.os, k.tape.trans h.tape, k.output.trans h.output, Nat.le_trans h.size k.size, fun i hi hne => (k.block i hi).trans (h.block i hi hne)⟩
theorem RowT.rg {α : Type} {T0 : TypeId} {Pc : World → List Value → α → Prop} {sz base n : Nat} {v : Value} {l : List α} (h : RowT T0 Pc sz w base v n l) (hgr : gr < base) (k : w.grownBy w' (some gr)) (hP : ∀ cs a, Pc w cs a → Pc w' cs a) : RowT T0 Pc sz w' base v n l :=
  h.same (fun g _ hg hc => rg_blks k hc (by omega)) hP
theorem noW_err (x : Int) : noW (errV x) = true := by unfold errV; split <;> rfl
theorem RdP.tch {T : TypeId → Bool} (h : RdP B w gr c1 c2 c3 c4 s) (k : w.grownBy w' (some gr)) (hT : T 100 = true) : Tch T w w' := by
  obtain ⟨A, n, c, hb, _⟩ := h.blk
  obtain ⟨h1, h2, h3, h4⟩ := h.hw
  refine Tch.of_ne k.size hb hT ?_ fun g hlt hne => k.block g hlt (fun e => hne (by injection e))
  simp only [List.all_cons, List.all_nil, h1, h2, h3, h4, noW_err, Bool.and_true]
  rfl
end
def TA : TypeId → Bool := fun _ => true
theorem tch_sets {w : World} {g t : Nat} {cs : Array Value} (z : Blk w g t cs) (hz : cs.toList.all noW = true) (i j k : Nat) (u0 u1 u2 : Value) : Tch TA w (((w.setCell ⟨g, i, none⟩ u0).setCell ⟨g, j, none⟩ u1).setCell ⟨g, k, none⟩ u2) :=
  Tch.of_ne (by simp [World.setCell]) z rfl hz fun g' _ hne => by
    rw [Below.heap_setCell _ _ _ _ hne, Below.heap_setCell _ _ _ _ hne, Below.heap_setCell _ _ _ _ hne]
theorem bel_sets {B g : Nat} (w : World) (hB : B ≤ g) (i j k : Nat) (u0 u1 u2 : Value) : Below B w (((w.setCell ⟨g, i, none⟩ u0).setCell ⟨g, j, none⟩ u1).setCell ⟨g, k, none⟩ u2) :=
  (((Below.refl B w).setCell (p := ⟨g, i, none⟩) hB u0).setCell (p := ⟨g, j, none⟩) hB u1).setCell (p := ⟨g, k, none⟩) hB u2
theorem rg_far {w w' : World} {gr : Nat} (h : w.grownBy w' (some gr)) {p : Addr} (hp : w.heap.size ≤ p.block) (u : Value) : w.grownBy (w'.setCell p u) (some gr) :=
  ⟨h.os, h.tape, h.output, by simp [World.setCell, h.size], fun k hk hne => (Below.heap_setCell w' p u k (by omega)).trans (h.block k hk hne)⟩
def mOf (gr : Nat) (w : World) : Nat := (match w.cell? ⟨gr, 0, none⟩ with | some (.slice _ n _) => 2 * n | _ => 0) + (match w.cell? ⟨gr, 5, none⟩ with | some .nilIface => 1 | _ => 0)
theorem RdP.meas {B : Nat} {w : World} {gr : Nat} {c1 c2 c3 c4 : Value} {s : PS} (h : RdP B w gr c1 c2 c3 c4 s) : mOf gr w = 2 * s.toks.length + if s.x = 0 then 1 else 0 := by
  obtain ⟨A, n, c, hb, ht⟩ := h.blk
  unfold mOf
  rw [hb.cell 0, hb.cell 5]
  show 2 * n + (match some (errV s.x) with | some .nilIface => 1 | _ => 0) = _
  rw [ht.1]
  by_cases hx : s.x = 0
  · rw [if_pos hx, hx, errV_0]
  · rw [if_neg hx, eVp hx]
theorem info_mk : (Tryz.prog.info? 85).map (fun i => (i.zero, i.size, i.bytes)) = some (some (.agg #[.string ⟨#[]⟩, .bool false, .slice none 0 0, .slice none 0 0, .bool false, .slice none 0 0, .slice none 0 0]), 7, 128) := by kernel_rfl
end Go.Proofs.YtoiijifnfdgfpaaGreatDoor

/- Walks: the reader's small methods: fail, next, word, expect, sign, more, number. -/
namespace Go.Proofs.YtoiijifnfdgfpaaGreatDoor
open Go Go.RowKit Bn
attribute [local go_sem ↓] Go.wp_at_zero Go.wp_at_succ
section
variable {w : World} {g t : Nat} {a0 a1 a2 a3 a4 a5 : Value}
theorem Blk.s60 (h : Blk w g t #[a0, a1, a2, a3, a4, a5]) (u : Value) : Blk (w.setCell ⟨g, 0, none⟩ u) g t #[u, a1, a2, a3, a4, a5] := h.set_ 0 u
theorem Blk.s61 (h : Blk w g t #[a0, a1, a2, a3, a4, a5]) (u : Value) : Blk (w.setCell ⟨g, 1, none⟩ u) g t #[a0, u, a2, a3, a4, a5] := h.set_ 1 u
theorem Blk.s65 (h : Blk w g t #[a0, a1, a2, a3, a4, a5]) (u : Value) : Blk (w.setCell ⟨g, 5, none⟩ u) g t #[a0, a1, a2, a3, a4, u] := h.set_ 5 u
end
theorem next_some {s s' : PS} {k : Nat} {t : List UInt8} (h : s.next k = (some t, s')) : s' = s ∧ s.x = 0 ∧ ∃ t0 r, s.toks = t0 :: r ∧ t0.kind = k ∧ t0.text = t := by
  unfold PS.next at h
  split at h
  · cases h
  · rename_i hx
    split at h
    · cases h
    · rename_i t0 r e
      split at h
      · rename_i hk
        injection h with h1 h2
        injection h1 with h1
        exact ⟨h2.symm, by simpa using hx, t0, r, e, hk, h1⟩
      · cases h
theorem rd_fail (w : World) (gr : Nat) (c0 c1 c2 c3 c4 : Value) (x e : Int) (hb : Blk w gr 100 #[c0, c1, c2, c3, c4, errV x]) (he : e ≠ 0) : Calls Tryz.prog 66 #[.pointer (some ⟨gr, 0, none⟩), .iface 63 (.int .i64 e)] w (fun en w' => en = .returned (.tuple #[]) ∧ Blk w' gr 100 #[c0, c1, c2, c3, c4, errV (if x = 0 then e else x)] ∧ w.grownBy w' (some gr)) := by
 have hlt := hb.lt
 have f5 := hb.frozen 5
 have ee := eVp he
 by_cases hx : x = 0
 ·subst hx
  have HB := Lib.hid hb
  obtain ⟨_, _, _, _, _, a5⟩ := hb.c6
  rw [errV_0] at a5
  rw [if_pos rfl, ee]
  clear hb ee
  go_enter Tryz.func66, Tryz.ntmps66
  go_wp2_with fail
  go_end0
  exact ⟨rfl, HB.out.s65 _, rg_set (rg_refl _ _) _ _⟩
 ·rw [if_neg hx]
  have HB := Lib.hid hb
  obtain ⟨_, _, _, _, _, a5⟩ := hb.c6
  rw [eVp hx] at a5
  clear hb ee
  go_enter Tryz.func66, Tryz.ntmps66
  go_wp2_with fail
  go_end0
  exact ⟨rfl, HB.out, rg_refl _ _⟩
theorem rd_next (B : Nat) (w : World) (gr : Nat) (c1 c2 c3 c4 : Value) (s : PS) (h : RdP B w gr c1 c2 c3 c4 s) (k : Nat) (z : Int) (hz : z = (k : Int)) : Calls Tryz.prog 90 #[.pointer (some ⟨gr, 0, none⟩), .int .i64 z] w (RetR B w gr c1 c2 c3 c4 (.tuple #[strV ((s.next k).1.getD []), .bool (s.next k).1.isSome]) (s.next k).2) := by
 subst hz
 have HP := Lib.hid h
 obtain ⟨toks, L, x⟩ := s
 obtain ⟨A, n, c, hb, ht⟩ := h.blk
 have hmx := h.mx
 have hB := h.hB
 have hlen := h.len
 have hw := h.hw
 have htx := h.txt
 simp only at hb ht hlen htx
 have HB := Lib.hid hb
 have HT := Lib.hid ht
 have HM := Lib.hid hmx
 have hn := ht.1
 obtain ⟨a0, _, _, _, _, a5⟩ := hb.c6
 clear hb ht hmx h
 by_cases hx : x = 0
 ·subst hx
  rw [errV_0] at a5
  cases toks with
  | nil =>
   have e : PS.next ⟨[], L, 0⟩ k = (none, ⟨[], L, 18⟩) := rfl
   rw [e]
   subst hn
   go_enter Tryz.func90, Tryz.ntmps90
   go_wp2_with fail
   (with_reducible refine (rd_fail _ gr (.slice A 0 c) c1 c2 c3 c4 0 18 HB.out (by decide)).mono ?_); rintro e w1 ⟨rfl, hb1, hg1⟩
   rw [if_pos rfl] at hb1
   have HB1 := Lib.hid hb1
   clear hb1
   go_wp2_with fail
   refine bodyPost_ret (v := .tuple #[strV [], .bool false]) (by simp [results, Tryz.results90, go_sem, *] <;> trivial) rfl ?_
   exact ⟨rfl, ⟨⟨A, 0, c, HB1.out, HT.out.rg hB hg1⟩, HM.out.rg hB hg1, hB, hlen, htx, hw⟩, hg1⟩
  | cons t r =>
   have hn1 : 0 < n := by rw [← hn]; simp
   obtain ⟨g, o, e, hg, d0, d1, d2, d3⟩ := HT.out.head
   subst e
   have hi0 : (0 : Int) < (n : Int) := by omega
   by_cases hk : t.kind = k
   ·have e : PS.next ⟨t :: r, L, 0⟩ k = (some t.text, ⟨t :: r, L, 0⟩) := by unfold PS.next; rw [if_neg (by simp)]; simp [hk]
    rw [e]
    have hk1 : ((t.kind : Int) == (k : Int)) = true := by simp [hk]
    have hk2 : ((n : Int) == 0) = false := beq_eq_false_iff_ne.2 (by omega)
    clear hn hk
    go_enter Tryz.func90, Tryz.ntmps90
    go_wp2_with fail
    refine bodyPost_ret (v := .tuple #[strV t.text, .bool true]) (by simp [results, Tryz.results90, go_sem, *] <;> trivial) rfl ?_
    exact ⟨rfl, HP.out.alloc _, rg_alloc (rg_refl _ _) _⟩
   ·have e : PS.next ⟨t :: r, L, 0⟩ k = (none, ⟨t :: r, L, 2⟩) := by unfold PS.next; rw [if_neg (by simp)]; simp [hk]
    rw [e]
    have hk1 : ((t.kind : Int) == (k : Int)) = false := beq_eq_false_iff_ne.2 (by omega)
    have hk2 : ((n : Int) == 0) = false := beq_eq_false_iff_ne.2 (by omega)
    clear hn hk
    go_enter Tryz.func90, Tryz.ntmps90
    go_wp2_with fail
    (with_reducible refine (rd_fail _ gr (.slice (some ⟨g, o, none⟩) n c) c1 c2 c3 c4 0 2 (HB.out.alloc _) (by decide)).mono ?_); rintro e w1 ⟨rfl, hb1, hg1⟩
    rw [if_pos rfl] at hb1
    have HB1 := Lib.hid hb1
    have hg2 := rg_trans (rg_alloc (rg_refl gr w) _) hg1
    clear hb1 hg1
    go_wp2_with fail
    refine bodyPost_ret (v := .tuple #[strV [], .bool false]) (by simp [results, Tryz.results90, go_sem, *] <;> trivial) rfl ?_
    exact ⟨rfl, ⟨⟨_, n, c, HB1.out, HT.out.rg hB hg2⟩, HM.out.rg hB hg2, hB, hlen, htx, hw⟩, hg2⟩
 ·have e : PS.next ⟨toks, L, x⟩ k = (none, ⟨toks, L, x⟩) := if_pos hx
  rw [e]
  rw [eVp hx] at a5
  go_enter Tryz.func90, Tryz.ntmps90
  go_wp2_with fail
  refine bodyPost_ret (v := .tuple #[strV [], .bool false]) (by simp [results, Tryz.results90, go_sem, *] <;> trivial) rfl ?_
  exact ⟨rfl, HP.out, rg_refl _ _⟩
theorem RdP.drop {B : Nat} {w : World} {gr n c n' c' : Nat} {A A' : Option Addr} {c1 c2 c3 c4 : Value} {s : PS} {t0 : Tkn} {r : List Tkn} (h : RdP B w gr c1 c2 c3 c4 s) (e : s.toks = t0 :: r)
    (hb : Blk w gr 100 #[.slice A n c, c1, c2, c3, c4, errV s.x]) (ht : TkA B w A n c s.toks) (hA : A' = if c = 1 then A else A.map (·.add 4)) (hn : n' = n - 1) (hc : c' = c - 1) : RdP B (w.setCell ⟨gr, 0, none⟩ (.slice A' n' c')) gr c1 c2 c3 c4 s.drop1 := by
  have hr := rg_set (rg_refl gr w) 0 (.slice A' n' c')
  have e1 : s.drop1.toks = r := by unfold PS.drop1; rw [e]; rfl
  rw [e] at ht
  exact ⟨⟨A', n', c', hb.s60 _, by rw [e1]; exact (ht.tail hA hn hc).rg h.hB hr⟩, h.mx.rg h.hB hr, h.hB, by rw [e1]; have := h.len; rw [e] at this; simp at this; omega, fun t ht => h.txt t (by rw [e]; rw [e1] at ht; exact List.mem_cons_of_mem _ ht), h.hw⟩
theorem rd_word (B : Nat) (w : World) (gr : Nat) (c1 c2 c3 c4 : Value) (s : PS) (h : RdP B w gr c1 c2 c3 c4 s) : Calls Tryz.prog 50 #[.pointer (some ⟨gr, 0, none⟩)] w (RetR B w gr c1 c2 c3 c4 (strV s.word.1) s.word.2) := by
 have HP := Lib.hid h
 obtain ⟨W, hW⟩ : ∃ W, s.word = W := ⟨_, rfl⟩
 rw [hW]
 have HW := Lib.hid hW
 clear h hW
 go_enter Tryz.func50, Tryz.ntmps50
 go_wp2_with fail
 (with_reducible refine (rd_next B _ gr c1 c2 c3 c4 s HP.out 0 0 rfl).mono ?_); rintro e w1 ⟨rfl, h1, hg1⟩
 have hW := HW.out
 unfold PS.word at hW
 generalize hq : s.next 0 = q at h1 hW
 obtain ⟨o, s'⟩ := q
 cases o with
 | none =>
  simp only [Option.getD_none, Option.isSome_none] at h1 hW ⊢
  subst hW
  have H1 := Lib.hid h1
  clear hq h1 HW
  go_wp2_with fail
  go_ret
  exact ⟨rfl, H1.out, hg1⟩
 | some t =>
  simp only [Option.getD_some, Option.isSome_some] at h1 hW ⊢
  subst hW
  obtain ⟨e, hx, t0, r, et, _, _⟩ := next_some hq
  obtain ⟨A, n, c, hb, ht⟩ := h1.blk
  have hn : (1 : Int) ≤ (n : Int) := by have := ht.1; rw [e, et] at this; simp at this; omega
  have f0 := hb.frozen 0
  obtain ⟨a0, _, _, _, _, _⟩ := hb.c6
  have H1 := Lib.hid h1
  have HB := Lib.hid hb
  have HT := Lib.hid ht
  have HE := Lib.hid (show s'.toks = t0 :: r by rw [e, et])
  clear h1 hb ht hq e et hx HW
  go_wp2_with fail
  all_goals
   go_ret
   exact ⟨rfl, H1.out.drop HE.out HB.out HT.out (by simp [Addr.add, *]) rfl (by omega), rg_set hg1 _ _⟩
theorem rd_expect (B : Nat) (w : World) (gr : Nat) (c1 c2 c3 c4 : Value) (s : PS) (h : RdP B w gr c1 c2 c3 c4 s) (k : Nat) (z : Int) (hz : z = (k : Int)) (text : List UInt8) : Calls Tryz.prog 49 #[.pointer (some ⟨gr, 0, none⟩), .int .i64 z, strV text] w (RetR B w gr c1 c2 c3 c4 (.tuple #[]) (s.expect k text)) := by
 have HP := Lib.hid h
 have HZ := Lib.hid hz
 obtain ⟨W, hW⟩ : ∃ W, s.expect k text = W := ⟨_, rfl⟩
 rw [hW]
 have HW := Lib.hid hW
 clear h hz hW
 go_enter Tryz.func49, Tryz.ntmps49
 go_wp2_with fail
 (with_reducible refine (rd_next B _ gr c1 c2 c3 c4 s HP.out k z HZ.out).mono ?_); rintro e w1 ⟨rfl, h1, hg1⟩
 have hW := HW.out
 unfold PS.expect at hW
 generalize hq : s.next k = q at h1 hW
 obtain ⟨o, s'⟩ := q
 cases o with
 | none =>
  simp only [Option.getD_none, Option.isSome_none] at h1 hW ⊢
  subst hW
  have H1 := Lib.hid h1
  clear hq h1 HW
  go_wp2_with fail
  go_end0
  exact ⟨rfl, H1.out, hg1⟩
 | some t =>
  simp only [Option.getD_some, Option.isSome_some] at h1 hW ⊢
  obtain ⟨e, hx, t0, r, et, _, _⟩ := next_some hq
  have ht1 := toList_v t
  have ht2 := toList_v text
  obtain ⟨A, n, c, hb, ht⟩ := h1.blk
  have hn : (1 : Int) ≤ (n : Int) := by have := ht.1; rw [e, et] at this; simp at this; omega
  have f0 := hb.frozen 0
  obtain ⟨a0, _, _, _, _, a5⟩ := hb.c6
  have H1 := Lib.hid h1
  have HB := Lib.hid hb
  have HT := Lib.hid ht
  have HE := Lib.hid (show s'.toks = t0 :: r by rw [e, et])
  have HX := Lib.hid (show s'.x = 0 by rw [e]; exact hx)
  clear h1 hb ht hq e et hx a5 HW
  by_cases heq : t = text
  ·rw [if_pos heq] at hW
   subst hW
   subst heq
   have hee : (t == t) = true := by simp
   go_wp2_with fail
   all_goals
    go_end0
    exact ⟨rfl, H1.out.drop HE.out HB.out HT.out (by simp [Addr.add, *]) rfl (by omega), rg_set hg1 _ _⟩
  ·rw [if_neg heq] at hW
   have e2 : s'.fail 2 = { s' with x := 2 } := if_pos HX.out
   rw [e2] at hW
   subst hW
   have hee : (t == text) = false := beq_eq_false_iff_ne.2 heq
   clear heq
   go_wp2_with fail
   (with_reducible refine (rd_fail _ gr (.slice A n c) c1 c2 c3 c4 s'.x 2 HB.out (by decide)).mono ?_); rintro e w2 ⟨rfl, hb2, hg2⟩
   rw [if_pos HX.out] at hb2
   have HB2 := Lib.hid hb2
   clear hb2
   go_wp2_with fail
   go_end0
   exact ⟨rfl, ⟨⟨A, n, c, HB2.out, HT.out.rg H1.out.hB hg2⟩, H1.out.mx.rg H1.out.hB hg2, H1.out.hB, H1.out.len, H1.out.txt, H1.out.hw⟩, rg_trans hg1 hg2⟩
theorem rd_sign (B : Nat) (w : World) (gr : Nat) (c1 c2 c3 c4 : Value) (s : PS) (h : RdP B w gr c1 c2 c3 c4 s) (text : List UInt8) : Calls Tryz.prog 51 #[.pointer (some ⟨gr, 0, none⟩), strV text] w (RetR B w gr c1 c2 c3 c4 (.tuple #[]) (s.expect 2 text)) := by
 have HP := Lib.hid h
 clear h
 go_enter Tryz.func51, Tryz.ntmps51
 go_wp2_with fail
 (with_reducible refine (rd_expect B _ gr c1 c2 c3 c4 s HP.out 2 2 rfl text).mono ?_); rintro e w1 ⟨rfl, h1, hg1⟩
 have H1 := Lib.hid h1
 clear h1
 go_wp2_with fail
 go_end0
 exact ⟨rfl, H1.out, hg1⟩
theorem rd_more (B : Nat) (w : World) (gr : Nat) (c1 c2 c3 c4 : Value) (s : PS) (h : RdP B w gr c1 c2 c3 c4 s) (v : Bool) (hv : decide (s.x = 0 ∧ s.toks ≠ []) = v) : Calls Tryz.prog 52 #[.pointer (some ⟨gr, 0, none⟩)] w (RetR B w gr c1 c2 c3 c4 (.bool v) s) := by
 have HP := Lib.hid h
 subst hv
 obtain ⟨A, n, c, hb, ht⟩ := h.blk
 have hn := ht.1
 obtain ⟨a0, _, _, _, _, a5⟩ := hb.c6
 clear hb ht h
 by_cases hx : s.x = 0
 ·rw [hx, errV_0] at a5
  by_cases ht : s.toks = []
  ·have e : decide (s.x = 0 ∧ s.toks ≠ []) = false := by simp [ht]
   rw [e]
   have hn0 : n = 0 := by rw [← hn, ht]; rfl
   subst hn0
   clear hn
   go_enter Tryz.func52, Tryz.ntmps52
   go_wp2_with fail
   go_ret
   exact ⟨rfl, HP.out, rg_refl _ _⟩
  ·have e : decide (s.x = 0 ∧ s.toks ≠ []) = true := by simp [ht, hx]
   rw [e]
   have hp : 0 < s.toks.length := List.length_pos_iff.2 ht
   have hn0 : (0 < n) = True := eq_true (by omega)
   clear hn
   go_enter Tryz.func52, Tryz.ntmps52
   go_wp2_with fail
   go_ret
   exact ⟨rfl, HP.out, rg_refl _ _⟩
 ·have e : decide (s.x = 0 ∧ s.toks ≠ []) = false := by simp [hx]
  rw [e]
  rw [eVp hx] at a5
  go_enter Tryz.func52, Tryz.ntmps52
  go_wp2_with fail
  go_ret
  exact ⟨rfl, HP.out, rg_refl _ _⟩
def RetN (B : Nat) (w : World) (gr : Nat) (c1 c2 c3 c4 : Value) (q : Rat) (s : PS) (e : Ending) (w' : World) : Prop :=
  ∃ b A n c D m e', e = .returned (.agg #[.bool b, .slice A n c, .slice D m e']) ∧ QV w' b A n c D m e' q 130 ∧ RdP B w' gr c1 c2 c3 c4 s ∧ w.grownBy w' (some gr)
theorem qv_zero (w : World) (k : Nat) : QV w false none 0 0 none 0 0 0 k := by
  unfold QV
  rw [rd_zero]
  exact ⟨rfl, Wd.nil_ w, Wd.nil_ w, Nat.zero_le _, Nat.zero_le _⟩
theorem QD.alloc_ {w : World} {b : Bool} {A D : Option Addr} {n c m e k : Nat} {r : RD} (h : QD w b A n c D m e r k) (o : Obj) : QD (w.alloc o) b A n c D m e r k := h.belw ((Below.refl _ _).alloc (Nat.le_refl _) o)
theorem number_fin {B : Nat} {w : World} {gr z n c n' c' : Nat} {A A' : Option Addr} {c1 c2 c3 c4 : Value} {s : PS} {t0 : Tkn} {r : List Tkn} (h : RdP B w gr c1 c2 c3 c4 s) (e : s.toks = t0 :: r)
    (hb : Blk w gr 100 #[.slice A n c, c1, c2, c3, c4, errV s.x]) (ht : TkA B w A n c s.toks) (hA : A' = if c = 1 then A else A.map (·.add 4)) (hn : n' = n - 1) (hc : c' = c - 1)
    (hz : gr < z) (Z : Blk w z 72 #[.bool false, .slice none 0 0, .slice none 0 0]) {b : Bool} {A2 D2 : Option Addr} {n2 d2 m2 e2 k : Nat} {q : RD} (hq : QD w b A2 n2 d2 D2 m2 e2 q k) (u0 u1 u2 : Value) (o : Obj) :
    QD (((((w.setCell ⟨gr, 0, none⟩ (.slice A' n' c')).setCell ⟨z, 0, none⟩ u0).setCell ⟨z, 1, none⟩ u1).setCell ⟨z, 2, none⟩ u2).alloc o) b A2 n2 d2 D2 m2 e2 q k ∧
    RdP B (((((w.setCell ⟨gr, 0, none⟩ (.slice A' n' c')).setCell ⟨z, 0, none⟩ u0).setCell ⟨z, 1, none⟩ u1).setCell ⟨z, 2, none⟩ u2).alloc o) gr c1 c2 c3 c4 s.drop1 := by
  have h1 := h.drop e hb ht hA hn hc
  have t1 : Tch TA w (w.setCell ⟨gr, 0, none⟩ (.slice A' n' c')) := h.tch (rg_set (rg_refl gr w) 0 _) rfl
  have Z1 : Blk (w.setCell ⟨gr, 0, none⟩ (.slice A' n' c')) z 72 #[.bool false, .slice none 0 0, .slice none 0 0] := Z.far (by show z ≠ gr; omega) _
  exact ⟨((hq.tch t1).tch (tch_sets Z1 rfl 0 1 2 u0 u1 u2)).alloc_ o, (h1.bel1 (bel_sets _ hz 0 1 2 u0 u1 u2)).alloc o⟩
theorem rd_number (B : Nat) (w : World) (gr : Nat) (c1 c2 c3 c4 : Value) (s : PS) (h : RdP B w gr c1 c2 c3 c4 s) : Calls Tryz.prog 113 #[.pointer (some ⟨gr, 0, none⟩)] w (RetN B w gr c1 c2 c3 c4 s.number.1 s.number.2) := by
 have HP := Lib.hid h
 have hlt := h.lt
 obtain ⟨W, hW⟩ : ∃ W, s.number = W := ⟨_, rfl⟩
 rw [hW]
 have HW := Lib.hid hW
 clear h hW
 go_enter Tryz.func113, Tryz.ntmps113
 go_wp2_with fail
 (with_reducible refine (rd_next B _ gr c1 c2 c3 c4 s (HP.out.alloc _) 1 1 rfl).mono ?_); rintro e w1 ⟨rfl, h1, hg1⟩
 have z1 : Blk w1 w.heap.size 72 #[.bool false, .slice none 0 0, .slice none 0 0] := rg_blk hg1 (Blk.new _ _ _) (by omega)
 have G1 : w.grownBy w1 (some gr) := rg_trans (rg_alloc (rg_refl gr w) _) hg1
 clear hg1
 have hlz := z1.lt
 have hW := HW.out
 unfold PS.number at hW
 generalize hq : s.next 1 = q at h1 hW
 obtain ⟨o, s'⟩ := q
 cases o with
 | none =>
  simp only [Option.getD_none, Option.isSome_none] at h1 hW ⊢
  subst hW
  obtain ⟨cz0, cz1, cz2⟩ := z1.c3
  obtain ⟨fz0, fz1, fz2⟩ := z1.f3
  have H1 := Lib.hid h1
  have Z1 := Lib.hid z1
  clear hq h1 z1 HW
  go_wp2_with fail
  refine bodyPost_ret (v := .agg #[.bool false, .slice none 0 0, .slice none 0 0]) (by simp [results, Tryz.results113, go_sem, *] <;> trivial) rfl ?_
  exact ⟨_, _, _, _, _, _, _, rfl, qv_zero _ _, ((H1.out.far hlt _).far hlt _).far hlt _, rg_far (rg_far (rg_far G1 (Nat.le_refl _) _) (Nat.le_refl _) _) (Nat.le_refl _) _⟩
 | some t =>
  simp only [Option.getD_some, Option.isSome_some] at h1 hW ⊢
  obtain ⟨e, hx, t0, r, et, _, _⟩ := next_some hq
  have HV := Lib.hid (val_out t)
  generalize valX t = x at HV hW
  generalize valQ t = qv at HV hW
  have HE := Lib.hid (show s'.toks = t0 :: r by rw [e, et])
  have HX := Lib.hid (show s'.x = 0 by rw [e]; exact hx)
  have H1 := Lib.hid h1
  have Z1 := Lib.hid z1
  have HW2 := Lib.hid hW
  clear h1 hq e et hx z1 hW HW
  go_wp2_with fail
  (with_reducible refine (t_value_o _ t x qv H1.out.mx.out HV.out).mono ?_); rintro e w2 ⟨b2, A2, n2, d2, D2, m2, e2, rfl, h2, hb2⟩
  have G2 := rg_below G1 hb2
  have z2 := Z1.out.below hb2 hlz
  have r2 := H1.out.belw hb2
  have hlw := hb2.size
  clear hb2 G1
  have hgl := r2.lt
  have hlz2 := z2.lt
  have R2 := Lib.hid r2
  have Z2 := Lib.hid z2
  have HQ2 := Lib.hid h2
  obtain ⟨A, n, c, hb, ht⟩ := r2.blk
  have hB := r2.hB
  have HB := Lib.hid hb
  have HT := Lib.hid ht
  clear Z1 H1 r2 z2 h2 ht
  by_cases hx0 : x = 0
  ·have hW := HW2.out
   rw [if_neg (by simp [hx0])] at hW
   subst hW hx0
   rw [errV_0]
   have hn : (1 : Int) ≤ (n : Int) := by have := HT.out.1; rw [HE.out] at this; simp at this; omega
   have f0 := hb.frozen 0
   obtain ⟨a0, _, _, _, _, _⟩ := hb.c6
   obtain ⟨cz0, cz1, cz2⟩ := Z2.out.c3
   obtain ⟨fz0, fz1, fz2⟩ := Z2.out.f3
   clear hb HW2
   have hne1 : ¬ gr = w2.heap.size := by omega
   have hne2 : ¬ w.heap.size = w2.heap.size := by omega
   have hne3 : ¬ gr = w.heap.size := by omega
   go_wp2_with fail
   all_goals
    refine bodyPost_ret (v := .agg #[.bool b2, .slice A2 n2 d2, .slice D2 m2 e2]) (by simp [results, Tryz.results113, go_sem, *] <;> trivial) rfl ?_
    exact ⟨_, _, _, _, _, _, _, rfl, (number_fin R2.out HE.out HB.out HT.out (by simp [Addr.add, *]) rfl (by omega) hlt Z2.out HQ2.out _ _ _ _).1, (number_fin R2.out HE.out HB.out HT.out (by simp [Addr.add, *]) rfl (by omega) hlt Z2.out HQ2.out _ _ _ _).2, rg_alloc (rg_far (rg_far (rg_far (rg_set G2 _ _) (Nat.le_refl _) _) (Nat.le_refl _) _) (Nat.le_refl _) _) _⟩
  ·have hW := HW2.out
   rw [if_pos hx0] at hW
   subst hW
   rw [eVp hx0]
   clear hb HW2
   go_wp2_with fail
   (with_reducible refine (rd_fail _ gr (.slice A n c) c1 c2 c3 c4 s'.x x (HB.out.alloc _) hx0).mono ?_); rintro e w3 ⟨rfl, hb3, hg3⟩
   rw [if_pos HX.out] at hb3
   have g3 := rg_trans (rg_alloc (rg_refl gr w2) _) hg3
   have z3 := rg_blk g3 Z2.out (by omega)
   obtain ⟨cz0, cz1, cz2⟩ := z3.c3
   obtain ⟨fz0, fz1, fz2⟩ := z3.f3
   have HB3 := Lib.hid hb3
   have hl3 := z3.lt
   clear hb3 hg3 z3
   go_wp2_with fail
   refine bodyPost_ret (v := .agg #[.bool false, .slice none 0 0, .slice none 0 0]) (by simp [results, Tryz.results113, go_sem, *] <;> trivial) rfl ?_
   have e2 : s'.fail x = { s' with x := x } := if_pos HX.out
   rw [e2]
   have R3 : RdP B w3 gr c1 c2 c3 c4 { s' with x := x } := ⟨⟨A, n, c, HB3.out, HT.out.rg hB g3⟩, R2.out.mx.rg hB g3, hB, R2.out.len, R2.out.txt, R2.out.hw⟩
   exact ⟨_, _, _, _, _, _, _, rfl, qv_zero _ _, ((R3.far hlt _).far hlt _).far hlt _, rg_far (rg_far (rg_far (rg_trans G2 g3) (Nat.le_refl _) _) (Nat.le_refl _) _) (Nat.le_refl _) _⟩
end Go.Proofs.YtoiijifnfdgfpaaGreatDoor

/- Walks: the reader: body. -/
namespace Go.Proofs.YtoiijifnfdgfpaaGreatDoor
open Go Go.RowKit Bn
attribute [local go_sem ↓] Go.wp_at_zero Go.wp_at_succ
def RetBd (B : Nat) (w : World) (gr : Nat) (c1 c2 c3 c4 : Value) (b : BodyL) (s : PS) (e : Ending) (w' : World) : Prop :=
  ∃ A n c, e = .returned (.agg #[strV b.name, .slice A n c]) ∧ MksT 130 w' A n c b.pts ∧ NmL b.name ∧ RdP B w' gr c1 c2 c3 c4 s ∧ w.grownBy w' (some gr)
section
variable {w : World} {g t : Nat} {a0 a1 a2 a3 a4 a5 a6 : Value}
theorem Blk.x7 (h : Blk w g t #[a0, a1, a2, a3, a4, a5, a6]) (u0 u1 u2 : Value) : Blk (((w.setCell ⟨g, 1, none⟩ u0).setCell ⟨g, 2, none⟩ u1).setCell ⟨g, 3, none⟩ u2) g t #[a0, u0, u1, u2, a4, a5, a6] := ((h.set_ 1 u0).set_ 2 u1).set_ 3 u2
theorem Blk.y7 (h : Blk w g t #[a0, a1, a2, a3, a4, a5, a6]) (u0 u1 u2 : Value) : Blk (((w.setCell ⟨g, 4, none⟩ u0).setCell ⟨g, 5, none⟩ u1).setCell ⟨g, 6, none⟩ u2) g t #[a0, a1, a2, a3, u0, u1, u2] := ((h.set_ 4 u0).set_ 5 u1).set_ 6 u2
theorem Blk.f7 (h : Blk w g t #[a0, a1, a2, a3, a4, a5, a6]) : w.frozen? ⟨g, 0, none⟩ = false ∧ w.frozen? ⟨g, 1, none⟩ = false ∧ w.frozen? ⟨g, 2, none⟩ = false ∧ w.frozen? ⟨g, 3, none⟩ = false ∧ w.frozen? ⟨g, 4, none⟩ = false ∧ w.frozen? ⟨g, 5, none⟩ = false ∧ w.frozen? ⟨g, 6, none⟩ = false := ⟨h.frozen 0, h.frozen 1, h.frozen 2, h.frozen 3, h.frozen 4, h.frozen 5, h.frozen 6⟩
theorem Blk.s21 (h : Blk w g t #[a0, a1]) (u : Value) : Blk (w.setCell ⟨g, 1, none⟩ u) g t #[a0, u] := h.set_ 1 u
end
theorem MksT.of_row {w : World} {base n c : Nat} {A : Option Addr} {l : List MarkL} (h : RowT 85 (MkC 130) 7 w base (.slice A n c) n l) : MksT 130 w A n c l := h.slT fun _ _ _ _ h1 h2 => h1.at_ h2
theorem OwJ.far {J : Value → Bool} {w : World} {base n size : Nat} {e : TypeId} {v : Value} {xs : List Value} (h : OwJ J w base e size v n xs) {p : Addr} (hp : some p.block ≠ v.ownBlock) (u : Value) : OwJ J (w.setCell p u) base e size v n xs := by
  refine ⟨h.1, ?_⟩
  rcases h.2 with h1 | ⟨g, cap, cur, rfl, h2, h3, h4⟩
  · exact .inl h1
  · exact .inr ⟨g, cap, cur, rfl, h2, (Below.heap_setCell w p u g (fun e => hp (by simp [Value.ownBlock, e]))).trans h3, h4⟩
theorem own_ne {J : Value → Bool} {w : World} {base n size g t : Nat} {e : TypeId} {v : Value} {xs : List Value} {cs : Array Value} (h : OwJ J w base e size v n xs) (hb : Blk w g t cs) (ht : t ≠ e) : some g ≠ v.ownBlock := by
  intro e1
  obtain ⟨_, cur, h2, _⟩ := h.at_ e1.symm
  unfold Blk at hb
  rw [h2] at hb
  injection hb with hb
  injection hb with _ hb
  exact ht hb.symm
theorem TkA.first {B : Nat} {w : World} {A : Option Addr} {n c : Nat} {s : PS} (ht : TkA B w A n c s.toks) : (n = 0 ∧ s.signHead = false) ∨ (0 < n ∧ ∃ g o, ∃ k : Nat, A = some ⟨g, o, none⟩ ∧ w.cell? ⟨g, o, none⟩ = some (.int .i64 (k : Nat)) ∧ s.signHead = decide (k = 2)) := by
  obtain ⟨toks, L, x⟩ := s
  cases toks with
  | nil => exact .inl ⟨ht.1.symm, rfl⟩
  | cons t r =>
    obtain ⟨g, o, e, _, d0, _⟩ := ht.head
    refine .inr ⟨by rw [← ht.1]; simp, g, o, t.kind, e, d0, ?_⟩
    show (t.kind == 2) = _
    rfl
structure BdR (B : Nat) (w : World) (gr gb : Nat) (c1 c2 c3 c4 : Value) (nm : List UInt8) (wr : World) (s : PS) (l : List MarkL) (pv : Value) : Prop where
  rd : RdP B wr gr c1 c2 c3 c4 s
  rg : w.grownBy wr (some gr)
  out : Blk wr w.heap.size 56 #[strV [], .slice none 0 0]
  b : Blk wr gb 56 #[strV nm, pv]
  row : RowT 85 (MkC 130) 7 wr gb pv l.length l
  lt : gr < w.heap.size ∧ w.heap.size < gb
section
variable {B : Nat} {w : World} {gr gb : Nat} {c1 c2 c3 c4 : Value} {nm : List UInt8} {wr w3 : World} {s s3 : PS} {l : List MarkL} {pv : Value}
theorem BdR.call (h : BdR B w gr gb c1 c2 c3 c4 nm wr s l pv) (h3 : RdP B w3 gr c1 c2 c3 c4 s3) (g3 : wr.grownBy w3 (some gr)) : BdR B w gr gb c1 c2 c3 c4 nm w3 s3 l pv :=
  ⟨h3, rg_trans h.rg g3, rg_blk g3 h.out (by have := h.lt; omega), rg_blk g3 h.b (by have := h.lt; omega), h.row.rg (by have := h.lt; omega) g3 (fun _ _ x => x.tch (h.rd.tch g3 (T := TA) rfl)), h.lt⟩
theorem BdR.fin {A : Option Addr} {n c : Nat} (h : BdR B w gr gb c1 c2 c3 c4 nm wr s l (.slice A n c)) (u v : Value) : RdP B ((wr.setCell ⟨w.heap.size, 0, none⟩ u).setCell ⟨w.heap.size, 1, none⟩ v) gr c1 c2 c3 c4 s ∧ w.grownBy ((wr.setCell ⟨w.heap.size, 0, none⟩ u).setCell ⟨w.heap.size, 1, none⟩ v) (some gr) ∧ MksT 130 ((wr.setCell ⟨w.heap.size, 0, none⟩ u).setCell ⟨w.heap.size, 1, none⟩ v) A n c l := by
  obtain ⟨h1, h2⟩ := h.lt
  refine ⟨(h.rd.far h1 _).far h1 _, rg_far (rg_far h.rg (Nat.le_refl _) _) (Nat.le_refl _) _, ?_⟩
  have hn : l.length = n := by
    obtain ⟨A', c', e, _⟩ := h.row.form
    injection e with _ e _
    exact e.symm
  have hr := h.row
  rw [hn] at hr
  have ht : Tch TA wr ((wr.setCell ⟨w.heap.size, 0, none⟩ u).setCell ⟨w.heap.size, 1, none⟩ v) :=
    Tch.of_ne (by simp [World.setCell]) h.out rfl rfl fun g' _ hne => by rw [Below.heap_setCell _ _ _ _ hne, Below.heap_setCell _ _ _ _ hne]
  exact MksT.of_row (hr.same (fun g cur hg hc => by rw [Below.heap_setCell _ _ _ _ (by show g ≠ w.heap.size; omega), Below.heap_setCell _ _ _ _ (by show g ≠ w.heap.size; omega)]; exact hc) (fun _ _ x => x.tch ht))
theorem BdR.b5 {xs : List Value} {w5 : World} (h : BdR B w gr gb c1 c2 c3 c4 nm wr s l pv) (hown : OwJ noW wr gb 85 7 pv l.length xs) (o : Obj) (hgrow : (wr.alloc o).grownBy w5 pv.ownBlock) : Blk w5 gb 56 #[strV nm, pv] :=
  (h.b.alloc o).grown hgrow (own_ne hown h.b (by decide))
theorem BdR.push {xs : List Value} {w5 : World} {v' : Value} {cs : List Value} {m : MarkL} {o : Obj} (h : BdR B w gr gb c1 c2 c3 c4 nm wr s l pv) (hown : OwJ noW wr gb 85 7 pv l.length xs) (hrow : RowC (MkC 130) 7 wr l xs)
    (hm : MkC 130 wr cs m) (hcs : cs.length = 7) (hown5 : OwJ noW w5 gb 85 7 v' (l.length + 1) (xs ++ cs)) (hgrow : (wr.alloc o).grownBy w5 pv.ownBlock) : BdR B w gr gb c1 c2 c3 c4 nm (w5.setCell ⟨gb, 1, none⟩ v') s (l ++ [m]) v' := by
  obtain ⟨h1, h2⟩ := h.lt
  have b5 := h.b5 hown o hgrow
  have hs := h.b.lt
  have hb5 : Below gb wr w5 := ((Below.refl gb wr).alloc (by omega) o).grown hgrow (by simp; omega) (fun k hk => (hown.at_ hk).1)
  have hb6 : Below gb wr (w5.setCell ⟨gb, 1, none⟩ v') := hb5.setCell (p := ⟨gb, 1, none⟩) (Nat.le_refl _) v'
  have hownA : OwJ noW (wr.alloc o) gb 85 7 pv l.length xs := hown.belw ((Below.refl _ _).alloc (Nat.le_refl _) o)
  obtain ⟨A, c, hpv, _⟩ := h.row.form
  have ht : Tch TA wr (w5.setCell ⟨gb, 1, none⟩ v') := ((Tch.below ((Below.refl _ _).alloc (Nat.le_refl _) o)).trans (Tch.grown (T := TA) (fun _ hu => hu) rfl hownA hgrow)).trans (Tch.set b5 rfl (by rw [hpv]; rfl) 1 v')
  have hl : (l ++ [m]).length = l.length + 1 := by simp
  refine ⟨h.rd.bel1 (hb6.mono (by omega)), rg_bel1 h.rg (hb6.mono (by omega)), h.out.below hb6 h2, b5.s21 v', ?_, h.lt⟩
  rw [hl]
  exact ⟨hl, xs ++ cs, hown5.far (own_ne hown5 b5 (by decide)) v', (hrow.map_ fun _ _ x => x.tch ht).snoc (hm.tch ht) hcs⟩
end
theorem rd_body (B : Nat) (w : World) (gr : Nat) (c1 c2 c3 c4 : Value) (s : PS) (h : RdP B w gr c1 c2 c3 c4 s) : Calls Tryz.prog 65 #[.pointer (some ⟨gr, 0, none⟩)] w (RetBd B w gr c1 c2 c3 c4 s.body.1 s.body.2) := by
 obtain ⟨i0, hi0, hz0, hz1, hz2⟩ := info_parts info_mk
 have HI := Lib.hid (And.intro hi0 (And.intro hz0 (And.intro hz1 hz2)))
 clear hi0 hz0 hz1 hz2
 unfold PS.body
 obtain ⟨R, hR⟩ : ∃ R, PS.marks (s.toks.length + 1) (s.word.2.expect 2 [123]) [] = R := ⟨_, rfl⟩
 simp only [hR]
 have HR := Lib.hid hR
 have HP := Lib.hid h
 have hlt := h.lt
 have HN := Lib.hid (word_nm h.txt)
 clear h hR
 go_enter Tryz.func65, Tryz.ntmps65
 go_wp2_with fail
 (with_reducible refine (rd_word B _ gr c1 c2 c3 c4 s (HP.out.alloc _)).mono ?_); rintro e w1 ⟨rfl, h1, hg1⟩
 have z1 : Blk w1 w.heap.size 56 #[strV [], .slice none 0 0] := rg_blk hg1 (Blk.new _ _ _) (by omega)
 have G1 : w.grownBy w1 (some gr) := rg_trans (rg_alloc (rg_refl gr w) _) hg1
 have hlz := z1.lt
 have hl1 := h1.lt
 have H1 := Lib.hid h1
 clear hg1 h1
 go_wp2_with fail
 (with_reducible refine (rd_sign B _ gr c1 c2 c3 c4 s.word.2 (H1.out.alloc _) [123]).mono ?_); rintro e w2 ⟨rfl, h2, hg2⟩
 have z2 : Blk w2 w.heap.size 56 #[strV [], .slice none 0 0] := rg_blk hg2 (z1.alloc _) (by omega)
 have b2 : Blk w2 w1.heap.size 56 #[strV s.word.1, .slice none 0 0] := rg_blk hg2 (Blk.new _ _ _) (by omega)
 have G2 : w.grownBy w2 (some gr) := rg_trans (rg_alloc G1 _) hg2
 clear z1 G1 H1 hg2
 generalize w1.heap.size = gb at hlz hl1 b2 ⊢
 have HB2 := Lib.hid b2
 have HZ2 := Lib.hid z2
 have H2 := Lib.hid h2
 clear b2 z2 h2
 go_wp2_with fail
 go_loopw [] (fun wr => ∃ f s' l pv, BdR B w gr gb c1 c2 c3 c4 s.word.1 wr s' l pv ∧ (s'.x = 0 → s'.toks.length < f ∧ l.length + s'.toks.length ≤ 65536) ∧ Hid (PS.marks f s' l = R)) (fun wr => mOf gr wr)
 case atStart =>
  have hst := (word_stp s).trans (expect_stp s.word.2 2 [123])
  have h6 := HP.out.len
  exact ⟨_, _, [], _, ⟨H2.out, G2, HZ2.out, HB2.out, RowT.nil, hlt, hlz⟩, fun _ => ⟨by have := hst.1; omega, by have := hst.1; simp; omega⟩, HR⟩
 case round =>
  clear HR H2 HZ2 HB2 G2
  obtain ⟨f, s', l, pv, hbr, hfl, HR⟩ := hrel
  obtain ⟨A, n, c, hb, ht⟩ := hbr.rd.blk
  obtain ⟨a0, _, _, _, _, a5⟩ := hb.c6
  obtain ⟨Ap, cp, rfl, hcp⟩ := hbr.row.form
  have HBR := Lib.hid hbr
  clear hb hbr
  by_cases hx : s'.x = 0
  ·rw [hx, errV_0] at a5
   obtain ⟨hf1, hf2⟩ := hfl hx
   have hff : 0 < f := by omega
   rcases ht.first with ⟨hn0, hs⟩ | ⟨hn0, g, o, k, e, d0, hs⟩
   rotate_left
   ·subst e
    rw [show decide (k = 2) = _ from rfl] at hs
    have hi0 : (0 : Int) < (n : Int) := by omega
    have hi1 : (0 < n) = True := eq_true hn0
    clear ht
    by_cases hk : k = 2
    ·have hk1 : ((k : Int) == 2) = true := by simp [hk]
     have hRl := marks_end (l := l) hff hx (by rw [hs]; simp [hk])
     rw [HR.out] at hRl
     subst hRl
     clear hs hfl
     go_wp2_with fail
     (with_reducible refine (rd_sign B _ gr c1 c2 c3 c4 s' HBR.out.rd [125]).mono ?_); rintro e w3 ⟨rfl, h3, hg3⟩
     have HB3 := Lib.hid (HBR.out.call h3 hg3)
     obtain ⟨cz0, cz1⟩ := HB3.out.out.c2
     obtain ⟨fz0, fz1⟩ := HB3.out.out.f2
     obtain ⟨cb0, cb1⟩ := HB3.out.b.c2
     have hne : ¬ gb = w.heap.size := by omega
     clear h3 hg3
     go_wp2_with fail
     refine bodyPost_ret (v := .agg #[strV s.word.1, .slice Ap l.length cp]) (by simp [results, Tryz.results65, go_sem, *] <;> trivial) rfl ?_
     exact ⟨_, _, _, rfl, (HB3.out.fin _ _).2.2, HN.out, (HB3.out.fin _ _).1, (HB3.out.fin _ _).2.1⟩
    ·have hk1 : ((k : Int) == 2) = false := beq_eq_false_iff_ne.2 (by omega)
     have hs2 : s'.signHead = false := by rw [hs]; simp [hk]
     clear hs
     have HS2 := Lib.hid hs2
     clear hs2
     go_wp2_with fail
     (with_reducible refine (rd_word B _ gr c1 c2 c3 c4 s' HBR.out.rd).mono ?_); rintro e w3 ⟨rfl, h3, hg3⟩
     have hnm := Lib.hid (word_nm HBR.out.rd.txt)
     have hl3 := h3.lt
     have hw3 := hg3.size
     have H3 := Lib.hid h3
     clear h3 a0 a5
     go_wp2_with fail
     (with_reducible refine (rd_number B _ gr c1 c2 c3 c4 s'.word.2 (H3.out.alloc _)).mono ?_); rintro e w4 ⟨b4, A4, n4, d4, D4, m4, e4, rfl, q4, h4, hg4⟩
     have p4 : Blk w4 w3.heap.size 85 #[strV s'.word.1, .bool false, .slice none 0 0, .slice none 0 0, .bool false, .slice none 0 0, .slice none 0 0] := rg_blk hg4 (Blk.new _ _ _) (by omega)
     have g4 : wr.grownBy w4 (some gr) := rg_trans (rg_alloc hg3 _) hg4
     have hlp4 := p4.lt
     obtain ⟨_, fp1, fp2, fp3, _⟩ := p4.f7
     obtain ⟨_, cq1, cq2, cq3, _⟩ := p4.c7
     have P4 := Lib.hid p4
     have H4 := Lib.hid h4
     have Q4 := Lib.hid q4
     clear p4 h4 q4 hg4 hg3 H3
     go_wp2_with fail
     (with_reducible refine (rd_number B _ gr c1 c2 c3 c4 s'.word.2.number.2 (H4.out.bel1 (bel_sets w4 hl3 1 2 3 (.bool b4) (.slice A4 n4 d4) (.slice D4 m4 e4)))).mono ?_); rintro e w5 ⟨b5, A5, n5, d5, D5, m5, e5, rfl, q5, h5, hg5⟩
     have p5 := rg_blk hg5 (P4.out.x7 (.bool b4) (.slice A4 n4 d4) (.slice D4 m4 e4)) (by omega)
     have g5 : wr.grownBy w5 (some gr) := rg_trans (rg_bel1 g4 (bel_sets w4 hw3 1 2 3 (.bool b4) (.slice A4 n4 d4) (.slice D4 m4 e4))) hg5
     have q45 := (Q4.out.tch (tch_sets P4.out rfl 1 2 3 (.bool b4) (.slice A4 n4 d4) (.slice D4 m4 e4))).tch ((H4.out.bel1 (bel_sets w4 hl3 1 2 3 (.bool b4) (.slice A4 n4 d4) (.slice D4 m4 e4))).tch hg5 (T := TA) rfl)
     have hlp5 := p5.lt
     obtain ⟨_, _, _, _, fr4, fr5, fr6⟩ := p5.f7
     obtain ⟨_, _, _, _, cr4, cr5, cr6⟩ := p5.c7
     have P5 := Lib.hid p5
     have H5 := Lib.hid h5
     have Q45 := Lib.hid q45
     have Q5 := Lib.hid q5
     clear p5 h5 q5 q45 hg5 g4 P4 H4 Q4 fp1 fp2 fp3 cq1 cq2 cq3
     go_wp2_with fail
     (with_reducible refine (rd_sign B _ gr c1 c2 c3 c4 s'.word.2.number.2.number.2 (H5.out.bel1 (bel_sets w5 hl3 4 5 6 (.bool b5) (.slice A5 n5 d5) (.slice D5 m5 e5))) [59]).mono ?_); rintro e w6 ⟨rfl, h6, hg6⟩
     have p6 := rg_blk hg6 (P5.out.y7 (.bool b5) (.slice A5 n5 d5) (.slice D5 m5 e5)) (by omega)
     have g6 : wr.grownBy w6 (some gr) := rg_trans (rg_bel1 g5 (bel_sets w5 hw3 4 5 6 (.bool b5) (.slice A5 n5 d5) (.slice D5 m5 e5))) hg6
     have t6 := (tch_sets P5.out rfl 4 5 6 (.bool b5) (.slice A5 n5 d5) (.slice D5 m5 e5)).trans ((H5.out.bel1 (bel_sets w5 hl3 4 5 6 (.bool b5) (.slice A5 n5 d5) (.slice D5 m5 e5))).tch hg6 (T := TA) rfl)
     have HM := Lib.hid (show MkC 130 w6 [strV s'.word.1, .bool b4, .slice A4 n4 d4, .slice D4 m4 e4, .bool b5, .slice A5 n5 d5, .slice D5 m5 e5] s'.mark.1 from ⟨b4, A4, n4, d4, D4, m4, e4, b5, A5, n5, d5, D5, m5, e5, rfl, Q45.out.tch t6, Q5.out.tch t6, hnm.out⟩)
     have HB6 := Lib.hid (show BdR B w gr gb c1 c2 c3 c4 s.word.1 w6 s'.mark.2 l (.slice Ap l.length cp) from HBR.out.call h6 g6)
     obtain ⟨_, xs, hown, hrow⟩ := HB6.out.row
     have HO := Lib.hid hown
     have HW := Lib.hid hrow
     obtain ⟨cb0, cb1⟩ := HB6.out.b.c2
     obtain ⟨cp0, cp1, cp2, cp3, cp4, cp5, cp6⟩ := p6.c7
     have hlb := HB6.out.b.lt
     have hlp6 := p6.lt
     clear h6 hg6 hown hrow p6 t6 g5 g6 P5 H5 Q45 Q5 fr4 fr5 fr6 cr4 cr5 cr6
     go_wp2_with (at_builtin; refine wpList_append_J _ rfl noW _ _ _ rfl gb 85 i0 (.agg #[.string ⟨#[]⟩, .bool false, .slice none 0 0, .slice none 0 0, .bool false, .slice none 0 0, .slice none 0 0]) 7 128 Tryz.underlying54 HI.out.1 HI.out.2.1 HI.out.2.2.1 HI.out.2.2.2 rfl (by omega) rfl _ l.length xs rfl (HO.out.belw ((Below.refl _ _).alloc (Nat.le_refl _) _)) ⟨w6.heap.size, 0, none⟩ 1 1 [_, _, _, _, _, _, _] rfl rfl (World.news_of_block (heap_alloc_new w6 _)) (by simp [Value.oneCell']) rfl (by omega) (by unfold maxLen; omega) (by omega) (by simp; omega) ?_; intro gx cap w7 hown7 hgrow hat; have fb7 := (HB6.out.b5 HO.out _ hgrow).frozen 1; obtain ⟨ce0, ce1⟩ := (HB6.out.b5 HO.out _ hgrow).c2)
     have hst := mark_stp s'
     have hR2 := marks_step (l := l) hff hx HS2.out
     rw [HR.out] at hR2
     go_roundw
     case rel =>
      refine ⟨f - 1, s'.mark.2, l ++ [s'.mark.1], _, HB6.out.push HO.out HW.out HM.out rfl hown7 hgrow, fun hz => ?_, Lib.hid hR2.symm⟩
      have h9 := (hst.2.2.1 hz).2
      rw [List.length_append, List.length_singleton]
      omega
     case measure =>
      rw [(HB6.out.push HO.out HW.out HM.out rfl hown7 hgrow).rd.meas, HBR.out.rd.meas, if_pos hx]
      have h8 := hst.1
      by_cases hz : s'.mark.2.x = 0
      ·have h9 := (hst.2.2.1 hz).2
       rw [if_pos hz]; omega
      ·rw [if_neg hz]; omega
   ·subst hn0
    have hs2 : s'.signHead = false := hs
    clear hs ht
    have HS2 := Lib.hid hs2
    clear hs2
    go_wp2_with fail
    (with_reducible refine (rd_word B _ gr c1 c2 c3 c4 s' HBR.out.rd).mono ?_); rintro e w3 ⟨rfl, h3, hg3⟩
    have hnm := Lib.hid (word_nm HBR.out.rd.txt)
    have hl3 := h3.lt
    have hw3 := hg3.size
    have H3 := Lib.hid h3
    clear h3 a0 a5
    go_wp2_with fail
    (with_reducible refine (rd_number B _ gr c1 c2 c3 c4 s'.word.2 (H3.out.alloc _)).mono ?_); rintro e w4 ⟨b4, A4, n4, d4, D4, m4, e4, rfl, q4, h4, hg4⟩
    have p4 : Blk w4 w3.heap.size 85 #[strV s'.word.1, .bool false, .slice none 0 0, .slice none 0 0, .bool false, .slice none 0 0, .slice none 0 0] := rg_blk hg4 (Blk.new _ _ _) (by omega)
    have g4 : wr.grownBy w4 (some gr) := rg_trans (rg_alloc hg3 _) hg4
    have hlp4 := p4.lt
    obtain ⟨_, fp1, fp2, fp3, _⟩ := p4.f7
    obtain ⟨_, cq1, cq2, cq3, _⟩ := p4.c7
    have P4 := Lib.hid p4
    have H4 := Lib.hid h4
    have Q4 := Lib.hid q4
    clear p4 h4 q4 hg4 hg3 H3
    go_wp2_with fail
    (with_reducible refine (rd_number B _ gr c1 c2 c3 c4 s'.word.2.number.2 (H4.out.bel1 (bel_sets w4 hl3 1 2 3 (.bool b4) (.slice A4 n4 d4) (.slice D4 m4 e4)))).mono ?_); rintro e w5 ⟨b5, A5, n5, d5, D5, m5, e5, rfl, q5, h5, hg5⟩
    have p5 := rg_blk hg5 (P4.out.x7 (.bool b4) (.slice A4 n4 d4) (.slice D4 m4 e4)) (by omega)
    have g5 : wr.grownBy w5 (some gr) := rg_trans (rg_bel1 g4 (bel_sets w4 hw3 1 2 3 (.bool b4) (.slice A4 n4 d4) (.slice D4 m4 e4))) hg5
    have q45 := (Q4.out.tch (tch_sets P4.out rfl 1 2 3 (.bool b4) (.slice A4 n4 d4) (.slice D4 m4 e4))).tch ((H4.out.bel1 (bel_sets w4 hl3 1 2 3 (.bool b4) (.slice A4 n4 d4) (.slice D4 m4 e4))).tch hg5 (T := TA) rfl)
    have hlp5 := p5.lt
    obtain ⟨_, _, _, _, fr4, fr5, fr6⟩ := p5.f7
    obtain ⟨_, _, _, _, cr4, cr5, cr6⟩ := p5.c7
    have P5 := Lib.hid p5
    have H5 := Lib.hid h5
    have Q45 := Lib.hid q45
    have Q5 := Lib.hid q5
    clear p5 h5 q5 q45 hg5 g4 P4 H4 Q4 fp1 fp2 fp3 cq1 cq2 cq3
    go_wp2_with fail
    (with_reducible refine (rd_sign B _ gr c1 c2 c3 c4 s'.word.2.number.2.number.2 (H5.out.bel1 (bel_sets w5 hl3 4 5 6 (.bool b5) (.slice A5 n5 d5) (.slice D5 m5 e5))) [59]).mono ?_); rintro e w6 ⟨rfl, h6, hg6⟩
    have p6 := rg_blk hg6 (P5.out.y7 (.bool b5) (.slice A5 n5 d5) (.slice D5 m5 e5)) (by omega)
    have g6 : wr.grownBy w6 (some gr) := rg_trans (rg_bel1 g5 (bel_sets w5 hw3 4 5 6 (.bool b5) (.slice A5 n5 d5) (.slice D5 m5 e5))) hg6
    have t6 := (tch_sets P5.out rfl 4 5 6 (.bool b5) (.slice A5 n5 d5) (.slice D5 m5 e5)).trans ((H5.out.bel1 (bel_sets w5 hl3 4 5 6 (.bool b5) (.slice A5 n5 d5) (.slice D5 m5 e5))).tch hg6 (T := TA) rfl)
    have HM := Lib.hid (show MkC 130 w6 [strV s'.word.1, .bool b4, .slice A4 n4 d4, .slice D4 m4 e4, .bool b5, .slice A5 n5 d5, .slice D5 m5 e5] s'.mark.1 from ⟨b4, A4, n4, d4, D4, m4, e4, b5, A5, n5, d5, D5, m5, e5, rfl, Q45.out.tch t6, Q5.out.tch t6, hnm.out⟩)
    have HB6 := Lib.hid (show BdR B w gr gb c1 c2 c3 c4 s.word.1 w6 s'.mark.2 l (.slice Ap l.length cp) from HBR.out.call h6 g6)
    obtain ⟨_, xs, hown, hrow⟩ := HB6.out.row
    have HO := Lib.hid hown
    have HW := Lib.hid hrow
    obtain ⟨cb0, cb1⟩ := HB6.out.b.c2
    obtain ⟨cp0, cp1, cp2, cp3, cp4, cp5, cp6⟩ := p6.c7
    have hlb := HB6.out.b.lt
    have hlp6 := p6.lt
    clear h6 hg6 hown hrow p6 t6 g5 g6 P5 H5 Q45 Q5 fr4 fr5 fr6 cr4 cr5 cr6
    go_wp2_with (at_builtin; refine wpList_append_J _ rfl noW _ _ _ rfl gb 85 i0 (.agg #[.string ⟨#[]⟩, .bool false, .slice none 0 0, .slice none 0 0, .bool false, .slice none 0 0, .slice none 0 0]) 7 128 Tryz.underlying54 HI.out.1 HI.out.2.1 HI.out.2.2.1 HI.out.2.2.2 rfl (by omega) rfl _ l.length xs rfl (HO.out.belw ((Below.refl _ _).alloc (Nat.le_refl _) _)) ⟨w6.heap.size, 0, none⟩ 1 1 [_, _, _, _, _, _, _] rfl rfl (World.news_of_block (heap_alloc_new w6 _)) (by simp [Value.oneCell']) rfl (by omega) (by unfold maxLen; omega) (by omega) (by simp; omega) ?_; intro gx cap w7 hown7 hgrow hat; have fb7 := (HB6.out.b5 HO.out _ hgrow).frozen 1; obtain ⟨ce0, ce1⟩ := (HB6.out.b5 HO.out _ hgrow).c2)
    have hst := mark_stp s'
    have hR2 := marks_step (l := l) hff hx HS2.out
    rw [HR.out] at hR2
    go_roundw
    case rel =>
     refine ⟨f - 1, s'.mark.2, l ++ [s'.mark.1], _, HB6.out.push HO.out HW.out HM.out rfl hown7 hgrow, fun hz => ?_, Lib.hid hR2.symm⟩
     have h9 := (hst.2.2.1 hz).2
     rw [List.length_append, List.length_singleton]
     omega
    case measure =>
     rw [(HB6.out.push HO.out HW.out HM.out rfl hown7 hgrow).rd.meas, HBR.out.rd.meas, if_pos hx]
     have h8 := hst.1
     by_cases hz : s'.mark.2.x = 0
     ·have h9 := (hst.2.2.1 hz).2
      rw [if_pos hz]; omega
     ·rw [if_neg hz]; omega
  ·rw [eVp hx] at a5
   have hz := HBR.out.out
   have hbb := HBR.out.b
   obtain ⟨cz0, cz1⟩ := hz.c2
   obtain ⟨fz0, fz1⟩ := hz.f2
   obtain ⟨cb0, cb1⟩ := hbb.c2
   have hne : ¬ gb = w.heap.size := by omega
   have hRl := marks_x (f := f) (l := l) hx
   rw [HR.out] at hRl
   subst hRl
   clear hz hbb hfl ht
   go_wp2_with fail
   refine bodyPost_ret (v := .agg #[strV s.word.1, .slice Ap l.length cp]) (by simp [results, Tryz.results65, go_sem, *] <;> trivial) rfl ?_
   exact ⟨_, _, _, rfl, (HBR.out.fin _ _).2.2, HN.out, (HBR.out.fin _ _).1, (HBR.out.fin _ _).2.1⟩
end Go.Proofs.YtoiijifnfdgfpaaGreatDoor

/- Walks: the reader: named, full. -/
namespace Go.Proofs.YtoiijifnfdgfpaaGreatDoor
open Go Go.RowKit Bn
attribute [local go_sem ↓] Go.wp_at_zero Go.wp_at_succ
section
variable {w w' : World} {gr base n c : Nat} {A : Option Addr} {cs : Array Value}
theorem RowT.rgt {α : Type} {T0 : TypeId} {Pc : World → List Value → α → Prop} {sz : Nat} {v : Value} {l : List α} (h : RowT T0 Pc sz w base v n l) (hb : Blk w gr 100 cs) (hne : T0 ≠ 100) (k : w.grownBy w' (some gr)) (hP : ∀ cs a, Pc w cs a → Pc w' cs a) : RowT T0 Pc sz w' base v n l :=
  h.same (fun g cur _ hc => rg_blks k hc (fun e => by
    subst e
    unfold Blk at hb
    rw [hb] at hc
    injection hc with hc
    injection hc with _ hc
    exact hne hc.symm)) hP
end
theorem RdP.bodies {B : Nat} {w w' : World} {gr n c : Nat} {A : Option Addr} {c1 c2 c3 c4 : Value} {s : PS} {l : List BodyL} (h : RdP B w gr c1 c2 c3 c4 s) (hr : RowT 56 (BdC 130) 2 w B (.slice A n c) n l) (k : w.grownBy w' (some gr)) : RowT 56 (BdC 130) 2 w' B (.slice A n c) n l := by
  obtain ⟨_, _, _, hb, _⟩ := h.blk
  exact hr.rgt hb (by decide) k fun _ _ x => x.tch (T := fun t => t == 100) (h.tch k rfl) (by decide)
end Go.Proofs.YtoiijifnfdgfpaaGreatDoor

/- A region that draws its order and stores to nothing ahead of its last operation: what was there stays, what each operation yields stays true of a world that has grown. -/
namespace Go.Proofs.YtoiijifnfdgfpaaGreatDoor
open Go Go.RowKit Bn
attribute [local go_sem ↓] Go.wp_at_zero Go.wp_at_succ
def LinG (ops : Array Oper) (fr : (Nat → Value) → Act) (R : Nat → Value → World → Prop) (W : World) (L : Array Bool) (a : Act) (w : World) : Prop :=
  ∃ x, a = fr x ∧ Below W.heap.size W w ∧ (∀ i, L.getD i false = true → R i (x i) w) ∧
  (∀ i o, ops[i]? = some o → L.getD i false = true → ∀ e ∈ o.after, Region.binds .any e = true → L.getD e.on false = true)
section
variable {P : Program} {ops : Array Oper} {Q : Exit → Act → World → Prop} {fr : (Nat → Value) → Act} {R : Nat → Value → World → Prop} {id : Nat} {w : World} {x0 : Nat → Value}
theorem linG_hcl {L : Array Bool} {i : Nat} {o : Oper} (hlt : i < L.size) (ho : ops[i]? = some o) (hall : ∀ e ∈ o.after, Region.binds .any e = true → L.getD e.on false = true)
    (hcl : ∀ i o, ops[i]? = some o → L.getD i false = true → ∀ e ∈ o.after, Region.binds .any e = true → L.getD e.on false = true) :
    ∀ i' o', ops[i']? = some o' → (L.setIfInBounds i true).getD i' false = true → ∀ e ∈ o'.after, Region.binds .any e = true → (L.setIfInBounds i true).getD e.on false = true := by
  intro i' o' ho' hl e he hbd
  rw [getD_set hlt] at hl ⊢
  by_cases h : i' = i
  · subst h; rw [ho] at ho'; injection ho' with ho'; subst ho'
    rw [hall e he hbd]; simp
  · have : L.getD i' false = true := by simpa [h] using hl
    rw [hcl i' o' ho' this e he hbd]; simp
def GrowStep (P : Program) (ops : Array Oper) (Q : Exit → Act → World → Prop) (fr : (Nat → Value) → Act) (R : Nat → Value → World → Prop) (w : World) (i : Nat) (o : Oper) : Prop :=
  ∀ x wq, Below w.heap.size w wq → (∀ e ∈ o.after, Region.binds .any e = true → R e.on (x e.on) wq) → ∀ K' : Act → World → Prop, Shut (∀ v w', R i v w' → Below wq.heap.size wq w' → K' ((fr x).put o.dst v) w') →
      if Region.wanted o (yielded ops (fr x).tmps) = true then Oper.wp P o (fr x) wq K' Q else K' ((fr x).put o.dst undef) wq
theorem wp_region_grow (hm : P.follows .mixedOrders = true)
    (hput : ∀ i o, ops[i]? = some o → ∀ x v, (fr x).put o.dst v = fr (upd x i v))
    (hac : ∀ i o, ops[i]? = some o → ∀ e ∈ o.after, Region.binds .any e = true → e.on < i)
    (hR : ∀ i v w w', R i v w → Below w.heap.size w w' → R i v w')
    (hstep : ∀ i o, ops[i]? = some o → GrowStep P ops Q fr R w i o)
    (hend : ∀ x w', Below w.heap.size w w' → (∀ i, i < ops.size → R i (x i) w') → Q .normal (fr x) w') :
    (Code.region id ops true).wp P Q (fr x0) w := by
  refine wp_region_any hm (wpAny_inv (fun L a w' => LinG ops fr R w L a w') ?_ ?_ _ _ _ _ (by simp) ?_ ?_)
  · rintro L a w1 i hs hi ⟨x, rfl, hb, hr, hcl⟩
    obtain ⟨hun, o, ho, hall⟩ := mem_ready.1 hi
    have hlt : i < L.size := by
      rcases Nat.lt_or_ge i L.size with h | h
      · exact h
      · rw [Array.getD_eq_getD_getElem?, Array.getElem?_eq_none h] at hun; cases hun
    have hdep : ∀ e ∈ o.after, Region.binds .any e = true → R e.on (x e.on) w1 := fun e he hbd => hr _ (hall e he hbd)
    refine wpOp_step ho fun K' hK => ?_
    refine hstep i o ho x w1 hb hdep K' (fun v w' hRv hbw => hK _ _ ?_)
    refine ⟨upd x i v, hput i o ho x v, hb.trans (hbw.mono hb.size), fun j hj => ?_, linG_hcl hlt ho hall hcl⟩
    by_cases h : j = i
    · subst h; rw [upd_same]; exact hRv
    · rw [upd_ne _ _ h]; rw [getD_set hlt] at hj; exact hR _ _ _ _ (hr j (by simpa [h] using hj)) hbw
  · rintro L a w1 hs hr0 ⟨x, rfl, hb, hr, hcl⟩
    have hallL : ∀ i, i < ops.size → L.getD i false = true := by
      intro i
      induction i using Nat.strongRecOn with
      | ind i ih =>
        intro hi
        cases h : L.getD i false
        · exfalso
          have : i ∈ Region.ready .any ops L := by
            refine mem_ready.2 ⟨?_, ops[i], Array.getElem?_eq_getElem hi, fun e he hbd => ?_⟩
            · rw [Array.getD_eq_getD_getElem?, Array.getElem?_eq_getElem (by omega)] at h ⊢; exact h
            · have h1 := hac i _ (Array.getElem?_eq_getElem hi) e he hbd
              exact ih e.on h1 (by omega)
          rw [hr0] at this; cases this
        · rfl
    exact hend x w1 hb (fun i hi => hr i (hallL i hi))
  · simp
  · have hz : ∀ j, (Array.replicate ops.size false).getD j false = false := by
      intro j; rw [Array.getD_eq_getD_getElem?, Array.getElem?_replicate]; split <;> rfl
    refine ⟨x0, rfl, (Below.refl w.heap.size w).drew, fun i h => ?_, fun i o _ h => ?_⟩ <;> rw [hz] at h <;> cases h
def reachB (l : List Oper) (n : Nat) : Bool := (List.range n).all fun j => (List.range (n + 1)).any fun k => decide (j < k) && match l[k]? with | some o => o.after.any (fun e => Region.binds .any e && e.on == j) | none => false
theorem reach_of {l : List Oper} {n j : Nat} (h : reachB l n = true) (hj : j < n) : ∃ k o, j < k ∧ k ≤ n ∧ (l.toArray)[k]? = some o ∧ ∃ e ∈ o.after, Region.binds .any e = true ∧ e.on = j := by
  unfold reachB at h
  rw [List.all_eq_true] at h
  have h1 := h j (List.mem_range.2 hj)
  rw [List.any_eq_true] at h1
  obtain ⟨k, hk, h2⟩ := h1
  rw [Bool.and_eq_true, decide_eq_true_eq] at h2
  obtain ⟨hjk, h2⟩ := h2
  cases hl : l[k]? with
  | none => rw [hl] at h2; cases h2
  | some o =>
    rw [hl] at h2
    obtain ⟨e, he, h3⟩ := Array.any_eq_true'.1 h2
    rw [Bool.and_eq_true] at h3
    exact ⟨k, o, hjk, by have := List.mem_range.1 hk; omega, by simpa using hl, e, he, h3.1, by simpa using h3.2⟩
theorem wp_region_fin {n : Nat} (hm : P.follows .mixedOrders = true) (hn : ops.size = n + 1)
    (hput : ∀ i o, ops[i]? = some o → i < n → ∀ x v, (fr x).put o.dst v = fr (upd x i v))
    (hac : ∀ i o, ops[i]? = some o → ∀ e ∈ o.after, Region.binds .any e = true → e.on < i)
    (hR : ∀ i v w w', R i v w → Below w.heap.size w w' → R i v w')
    (hreach : ∀ j, j < n → ∃ k o, j < k ∧ k ≤ n ∧ ops[k]? = some o ∧ ∃ e ∈ o.after, Region.binds .any e = true ∧ e.on = j)
    (hstep : ∀ i o, ops[i]? = some o → i < n → GrowStep P ops Q fr R w i o)
    (hlast : ∀ o, ops[n]? = some o → ∀ x wq, Below w.heap.size w wq → (∀ j, j < n → R j (x j) wq) → ∀ K' : Act → World → Prop, Shut (∀ a' w', Q .normal a' w' → K' a' w') →
      if Region.wanted o (yielded ops (fr x).tmps) = true then Oper.wp P o (fr x) wq K' Q else K' ((fr x).put o.dst undef) wq) :
    (Code.region id ops true).wp P Q (fr x0) w := by
  refine wp_region_any hm (wpAny_inv (fun L a w' => (L.getD n false = false ∧ LinG ops fr R w L a w') ∨ ((∀ i, i < ops.size → L.getD i false = true) ∧ Q .normal a w')) ?_ ?_ _ _ _ _ (by simp) ?_ ?_)
  · rintro L a w1 i hs hi hcase
    obtain ⟨hun, o, ho, hall⟩ := mem_ready.1 hi
    have hlt : i < L.size := by
      rcases Nat.lt_or_ge i L.size with h | h
      · exact h
      · rw [Array.getD_eq_getD_getElem?, Array.getElem?_eq_none h] at hun; cases hun
    have hunf : L.getD i false = false := by
      rw [Array.getD_eq_getD_getElem?, Array.getElem?_eq_getElem hlt] at hun ⊢; exact hun
    rcases hcase with ⟨hLn, x, rfl, hb, hr, hcl⟩ | ⟨hdone, _⟩
    · have hdep : ∀ e ∈ o.after, Region.binds .any e = true → R e.on (x e.on) w1 := fun e he hbd => hr _ (hall e he hbd)
      refine wpOp_step ho fun K' hK => ?_
      rcases Nat.lt_or_ge i n with hin | hin
      · refine hstep i o ho hin x w1 hb hdep K' (fun v w' hRv hbw => hK _ _ (Or.inl ⟨?_, ?_⟩))
        · rw [getD_set hlt, hLn]; simp; omega
        · refine ⟨upd x i v, hput i o ho hin x v, hb.trans (hbw.mono hb.size), fun j hj => ?_, linG_hcl hlt ho hall hcl⟩
          by_cases h : j = i
          · subst h; rw [upd_same]; exact hRv
          · rw [upd_ne _ _ h]; rw [getD_set hlt] at hj; exact hR _ _ _ _ (hr j (by simpa [h] using hj)) hbw
      · have e : i = n := by omega
        subst e
        have hallj : ∀ m j, j < i → i - j ≤ m → L.getD j false = true := by
          intro m
          induction m with
          | zero => intro j hj hm; omega
          | succ m ih =>
            intro j hj hm
            obtain ⟨k, o', hjk, hk, ho', e, he, hbd, hea⟩ := hreach j hj
            rcases Nat.lt_or_ge k i with h | h
            · rw [← hea]; exact hcl k o' ho' (ih k h (by omega)) e he hbd
            · have e2 : k = i := by omega
              subst e2
              rw [ho] at ho'
              injection ho' with ho'
              subst ho'
              rw [← hea]; exact hall e he hbd
        refine hlast o ho x w1 hb (fun j hj => hr j (hallj (i - j) j hj (Nat.le_refl _))) K' (fun a' w' hq => hK _ _ (Or.inr ⟨fun j hj => ?_, hq⟩))
        rw [getD_set hlt]
        by_cases h : j = i
        · simp [h]
        · rw [hallj (i - j) j (by omega) (Nat.le_refl _)]; simp
    · have := hdone i (by omega)
      rw [hunf] at this; cases this
  · rintro L a w1 hs hr0 (⟨hLn, x, rfl, hb, hr, hcl⟩ | ⟨_, hq⟩)
    · have hallL : ∀ i, i < ops.size → L.getD i false = true := by
        intro i
        induction i using Nat.strongRecOn with
        | ind i ih =>
          intro hi
          cases h : L.getD i false
          · exfalso
            have : i ∈ Region.ready .any ops L := by
              refine mem_ready.2 ⟨?_, ops[i], Array.getElem?_eq_getElem hi, fun e he hbd => ?_⟩
              · rw [Array.getD_eq_getD_getElem?, Array.getElem?_eq_getElem (by omega)] at h ⊢; exact h
              · have h1 := hac i _ (Array.getElem?_eq_getElem hi) e he hbd
                exact ih e.on h1 (by omega)
            rw [hr0] at this; cases this
          · rfl
      have := hallL n (by omega)
      rw [hLn] at this; cases this
    · exact hq
  · simp
  · have hz : ∀ j, (Array.replicate ops.size false).getD j false = false := by
      intro j; rw [Array.getD_eq_getD_getElem?, Array.getElem?_replicate]; split <;> rfl
    refine Or.inl ⟨hz n, x0, rfl, (Below.refl w.heap.size w).drew, fun i h => ?_, fun i o _ h => ?_⟩ <;> rw [hz] at h <;> cases h
end
def Grw (p : Value → World → Prop) : Prop := ∀ v w w', p v w → Below w.heap.size w w' → p v w'
def AllGrw : List (Value → World → Prop) → Prop
  | [] => True
  | p :: l => Grw p ∧ AllGrw l
theorem AllGrw.get : ∀ (l : List (Value → World → Prop)), AllGrw l → ∀ i v w w', l.getD i (fun _ _ => True) v w → Below w.heap.size w w' → l.getD i (fun _ _ => True) v w' := by
  intro l
  induction l with
  | nil => intro _ i v w w' _ _; simp
  | cons p l ih =>
    intro h i v w w' hp hk
    cases i with
    | zero => exact h.1 v w w' hp hk
    | succ i => exact ih h.2 i v w w' hp hk
theorem gEq (u : Value) : Grw (PEq u) := fun _ _ _ h _ => h
theorem gAny : Grw PAny := fun _ _ _ h _ => h
theorem gQ (q : Rat) (k : Nat) : Grw (VQ q k) := fun _ _ _ ⟨b, A, n, c, D, m, e, h0, h⟩ hk => ⟨b, A, n, c, D, m, e, h0, h.belw hk⟩
end Go.Proofs.YtoiijifnfdgfpaaGreatDoor

/- Walks: the reader: item. -/
namespace Go.Proofs.YtoiijifnfdgfpaaGreatDoor
open Go Go.RowKit Bn
attribute [local go_sem ↓] Go.wp_at_zero Go.wp_at_succ
structure RdL (B : Nat) (w : World) (gr : Nat) (s : PS) (A : Option Addr) (n c : Nat) (A' : Option Addr) (n' c' : Nat) (A'' : Option Addr) (n'' c'' : Nat) : Prop where
  rd : RdP B w gr (strV s.L.name) (.slice A n c) (.slice A' n' c') (.slice A'' n'' c'') s
  bd : RowT 56 (BdC 130) 2 w B (.slice A n c) n s.L.bodies
  jt : RowT 60 JtC 7 w B (.slice A' n' c') n' s.L.joints
  dr : RowT 58 DrC 2 w B (.slice A'' n'' c'') n'' s.L.drivers
  nm : NmL s.L.name
  cnt : n + n' + n'' + s.toks.length ≤ 70000
  pts : ∀ b ∈ s.L.bodies, b.pts.length ≤ 70000
section
variable {B : Nat} {w w' : World} {gr : Nat} {c1 c2 c3 c4 : Value} {s : PS}
theorem RdP.other {T : TypeId → Bool} (h : RdP B w gr c1 c2 c3 c4 s) (ht : Tch T w w') (hT : T 100 = false) (hb : Below B w w') : RdP B w' gr c1 c2 c3 c4 s := by
  obtain ⟨A, n, c, h1, h2⟩ := h.blk
  exact ⟨⟨A, n, c, ht.2 gr _ _ _ h1 (.inl hT), h2.belB hb⟩, h.mx.belB hb, h.hB, h.len, h.txt, h.hw⟩
theorem RdP.put1 (h : RdP B w gr c1 c2 c3 c4 s) (v : Value) (hv : noW v = true) {s2 : PS} (e1 : s2.toks = s.toks) (e2 : s2.x = s.x) : RdP B (w.setCell ⟨gr, 1, none⟩ v) gr v c2 c3 c4 s2 := by
  obtain ⟨A, n, c, h1, h2⟩ := h.blk
  have hb : Below B w (w.setCell ⟨gr, 1, none⟩ v) := (Below.refl B w).setCell (p := ⟨gr, 1, none⟩) h.hB v
  exact ⟨⟨A, n, c, by rw [e2]; exact h1.s61 v, by rw [e1]; exact h2.belB hb⟩, h.mx.belB hb, h.hB, by rw [e1]; exact h.len, by rw [e1]; exact h.txt, hv, h.hw.2⟩
theorem RdP.drew (h : RdP B w gr c1 c2 c3 c4 s) : RdP B w.drew gr c1 c2 c3 c4 s := ⟨h.blk, h.mx, h.hB, h.len, h.txt, h.hw⟩
theorem RdP.cells (h : RdP B w gr c1 c2 c3 c4 s) : w.cell? ⟨gr, 1, none⟩ = some c1 ∧ w.cell? ⟨gr, 2, none⟩ = some c2 ∧ w.cell? ⟨gr, 3, none⟩ = some c3 ∧ w.cell? ⟨gr, 4, none⟩ = some c4 ∧ w.frozen? ⟨gr, 1, none⟩ = false ∧ w.frozen? ⟨gr, 2, none⟩ = false ∧ w.frozen? ⟨gr, 3, none⟩ = false ∧ w.frozen? ⟨gr, 4, none⟩ = false := by
  obtain ⟨A, n, c, hb, _⟩ := h.blk
  obtain ⟨_, a1, a2, a3, a4, _⟩ := hb.c6
  exact ⟨a1, a2, a3, a4, hb.frozen 1, hb.frozen 2, hb.frozen 3, hb.frozen 4⟩
def TOne (t : TypeId) : TypeId → Bool := fun u => u == t
theorem RdP.tchR (h : RdP B w gr c1 c2 c3 c4 s) (k : w.grownBy w' (some gr)) : Tch (TOne 100) w w' := h.tch k (by simp [TOne])
end
def BdSt (B gr : Nat) (w : World) (c1 c2 c3 c4 : Value) (s : PS) (b : BodyL) (v : Value) (wq : World) : Prop :=
  ∃ A n c, v = .agg #[strV b.name, .slice A n c] ∧ MksT 130 wq A n c b.pts ∧ NmL b.name ∧ RdP B wq gr c1 c2 c3 c4 s ∧ w.grownBy wq (some gr)
def TB (B gr : Nat) (w : World) (c1 c2 c3 c4 : Value) (s : PS) (b : BodyL) (n : Nat) (l : List BodyL) : Nat → Value → Value → Value → World → Prop
  | 0, _, _, _, wq => wq = w.drew
  | 1, v7, _, _, wq => BdSt B gr w c1 c2 c3 c4 s b v7 wq
  | 2, _, v8, _, wq => ∃ w2 A n' c', BdSt B gr w c1 c2 c3 c4 s b (.agg #[strV b.name, .slice A n' c']) w2 ∧ v8 = .slice (some ⟨w2.heap.size, 0, none⟩) 1 1 ∧ wq = w2.alloc (.cells #[strV b.name, .slice A n' c'] 56)
  | 3, _, _, v9, wq => ∃ w2 v A5 c5, BdSt B gr w c1 c2 c3 c4 s b v w2 ∧ v9 = .slice A5 (n + 1) c5 ∧ RowT 56 (BdC 130) 2 wq B v9 (n + 1) (l ++ [b]) ∧ Tch (TOne 56) w2 wq ∧ Below B w2 wq
  | _, _, _, _, _ => False
theorem TB.rd {B gr : Nat} {w : World} {c1 c2 c3 c4 : Value} {s0 s : PS} {b : BodyL} {n : Nat} {l : List BodyL} (h0 : RdP B w gr c1 c2 c3 c4 s0) : ∀ {k : Nat} {v7 v8 v9 : Value} {wq : World}, TB B gr w c1 c2 c3 c4 s b n l k v7 v8 v9 wq → ∃ s', RdP B wq gr c1 c2 c3 c4 s'
  | 0, _, _, _, _, h => by
    have h : _ = _ := h
    rw [h]
    exact ⟨s0, ⟨h0.blk, h0.mx, h0.hB, h0.len, h0.txt, h0.hw⟩⟩
  | 1, _, _, _, _, ⟨_, _, _, _, _, _, h, _⟩ => ⟨s, h⟩
  | 2, _, _, _, _, ⟨w2, _, _, _, ⟨_, _, _, _, _, _, h, _⟩, _, e⟩ => ⟨s, by rw [e]; exact h.alloc _⟩
  | 3, _, _, _, _, ⟨w2, _, _, _, ⟨_, _, _, _, _, _, h, _⟩, _, _, ht, hb⟩ => ⟨s, h.other ht (by decide) hb⟩
  | _ + 4, _, _, _, _, h => False.elim h
def TJ_ {α : Type} (T0 : TypeId) (Pc : World → List Value → α → Prop) (sz : Nat) (B gj : Nat) (w : World) (cs : List Value) (a : α) (n : Nat) (l : List α) : Nat → Value → Value → World → Prop
  | 0, _, _, wq => wq = w.drew
  | 1, v7, _, wq => v7 = .slice (some ⟨w.heap.size, 0, none⟩) 1 1 ∧ wq = w.drew.alloc (.cells cs.toArray T0)
  | 2, _, v8, wq => ∃ A5 c5, v8 = .slice A5 (n + 1) c5 ∧ RowT T0 Pc sz wq B v8 (n + 1) (l ++ [a]) ∧ Blk wq gj T0 cs.toArray ∧ Tch (TOne T0) w wq ∧ Below B w wq
  | _, _, _, _ => False
theorem TJ_.rd {α : Type} {T0 : TypeId} {Pc : World → List Value → α → Prop} {sz B gj gr n : Nat} {w : World} {cs : List Value} {a : α} {l : List α} {c1 c2 c3 c4 : Value} {s : PS} (hT : TOne T0 100 = false) (h0 : RdP B w gr c1 c2 c3 c4 s) : ∀ {k : Nat} {v7 v8 : Value} {wq : World}, TJ_ T0 Pc sz B gj w cs a n l k v7 v8 wq → RdP B wq gr c1 c2 c3 c4 s
  | 0, _, _, _, h => by
    have h : _ = _ := h
    rw [h]
    exact ⟨h0.blk, h0.mx, h0.hB, h0.len, h0.txt, h0.hw⟩
  | 1, _, _, _, ⟨_, e⟩ => by
    rw [e]
    exact h0.drew.alloc _
  | 2, _, _, _, ⟨_, _, _, _, _, ht, hb⟩ => h0.other ht hT hb
  | _ + 3, _, _, _, h => False.elim h
theorem TJ_.blk {α : Type} {T0 : TypeId} {Pc : World → List Value → α → Prop} {sz B gj n : Nat} {w : World} {cs : List Value} {a : α} {l : List α} (hb : Blk w gj T0 cs.toArray) : ∀ {k : Nat} {v7 v8 : Value} {wq : World}, TJ_ T0 Pc sz B gj w cs a n l k v7 v8 wq → Blk wq gj T0 cs.toArray
  | 0, _, _, _, h => by
    have h : _ = _ := h
    rw [h]; exact hb.drew
  | 1, _, _, _, ⟨_, e⟩ => by rw [e]; exact hb.drew.alloc _
  | 2, _, _, _, ⟨_, _, _, _, h, _⟩ => h
  | _ + 3, _, _, _, h => False.elim h
abbrev fr4 (u0 u1 u2 u3 u4 u5 u6 u7 u8 u9 u10 u11 u12 u26 u27 u28 u29 u30 u31 u32 u33 u34 u35 u36 u37 u38 u39 u40 u41 u42 u43 u44 u45 u46 u47 u48 u49 u50 u51 u52 u53 u54 u55 u56 u57 u58 u59 u60 u61 u62 u63 u64 u65 u66 u67 u68 u69 u70 u71 u72 u73 u74 u75 u76 u77 u78 u79 u80 u81 u82 u83 u84 u85 u86 u87 u88 u89 u90 u91 u92 : Value) (xf : Nat → Value) : Act := ⟨List.toArray (u0 :: u1 :: u2 :: u3 :: u4 :: u5 :: u6 :: u7 :: u8 :: u9 :: u10 :: u11 :: u12 :: xf 0 :: xf 1 :: xf 2 :: xf 3 :: xf 4 :: xf 5 :: xf 6 :: xf 7 :: xf 8 :: xf 9 :: xf 10 :: xf 11 :: xf 12 :: u26 :: u27 :: u28 :: u29 :: u30 :: u31 :: u32 :: u33 :: u34 :: u35 :: u36 :: u37 :: u38 :: u39 :: u40 :: u41 :: u42 :: u43 :: u44 :: u45 :: u46 :: u47 :: u48 :: u49 :: u50 :: u51 :: u52 :: u53 :: u54 :: u55 :: u56 :: u57 :: u58 :: u59 :: u60 :: u61 :: u62 :: u63 :: u64 :: u65 :: u66 :: u67 :: u68 :: u69 :: u70 :: u71 :: u72 :: u73 :: u74 :: u75 :: u76 :: u77 :: u78 :: u79 :: u80 :: u81 :: u82 :: u83 :: u84 :: u85 :: u86 :: u87 :: u88 :: u89 :: u90 :: u91 :: u92 :: []), []⟩
end Go.Proofs.YtoiijifnfdgfpaaGreatDoor

/- Laws of tokens: plain. -/
namespace Go.Proofs.YtoiijifnfdgfpaaGreatDoor
open Go Go.RowKit Bn
attribute [local go_sem ↓] Go.wp_at_zero Go.wp_at_succ
theorem toks_sum : ∀ (f : Nat) (r : List UInt8) (line col : Nat) (l : List Tkn), toks f r line col = .ok l → (l.map fun t => t.text.length).sum ≤ r.length ∧ ∀ t ∈ l, 0 < t.text.length := by
  intro f
  induction f with
  | zero => intro r line col l h; unfold toks at h; injection h with h; subst h; simp
  | succ f ih =>
    intro r line col l h
    cases r with
    | nil => unfold toks at h; injection h with h; subst h; simp
    | cons c s =>
      unfold toks at h
      split at h
      · have := ih _ _ _ _ h
        refine ⟨?_, this.2⟩
        rw [List.length_cons]; omega
      · split at h
        · have := ih _ _ _ _ h
          refine ⟨?_, this.2⟩
          rw [List.length_cons]; omega
        · split at h
          · have := ih _ _ _ _ h
            refine ⟨?_, this.2⟩
            rw [List.length_drop] at this; omega
          · split at h
            · cases h
            · rename_i k n hf
              have hn := firstT_ok hf
              cases hx : toks f ((c :: s).drop n) line (col + n) with
              | err x => rw [hx] at h; cases h
              | ok l' =>
                rw [hx] at h
                injection h with h
                subst h
                have := ih _ _ _ _ hx
                have hl : ((c :: s).take n).length = n := by rw [List.length_take]; omega
                rw [List.length_drop] at this
                refine ⟨?_, fun t ht => ?_⟩
                · simp only [List.map_cons, List.sum_cons, hl]; omega
                · rcases List.mem_cons.1 ht with e | e
                  · subst e; show 0 < ((c :: s).take n).length; omega
                  · exact this.2 t e
theorem len_le_sum : ∀ {l : List Tkn}, (∀ t ∈ l, 0 < t.text.length) → l.length ≤ (l.map fun t => t.text.length).sum
  | [], _ => by simp
  | t :: l, h => by
    have h1 := len_le_sum (l := l) (fun x hx => h x (by simp [hx]))
    have h2 := h t (by simp)
    simp only [List.length_cons, List.map_cons, List.sum_cons]; omega
theorem tokens_len {s : List UInt8} {l : List Tkn} (h : tokens s = .ok l) : l.length ≤ s.length ∧ (l.map fun t => t.text.length).sum ≤ s.length := by
  obtain ⟨h1, h2⟩ := toks_sum _ _ _ _ _ h
  have := len_le_sum h2
  omega
theorem SplitOut.len {s : List UInt8} {x : Int} {l : List Tkn} (h : SplitOut s x l) : l.length ≤ 65536 := by
  rcases h with ⟨_, _, rfl⟩ | ⟨h, ht, _⟩ | ⟨_, _, _, _, rfl⟩
  · simp
  · have := (tokens_len ht).1; omega
  · simp
end Go.Proofs.YtoiijifnfdgfpaaGreatDoor

/- Walks: parse.Linkage. -/
namespace Go.Proofs.YtoiijifnfdgfpaaGreatDoor
open Go Go.RowKit Bn
attribute [local go_sem ↓] Go.wp_at_zero Go.wp_at_succ
theorem sum_mem {l : List Tkn} {t : Tkn} (h : t ∈ l) : t.text.length ≤ (l.map fun t => t.text.length).sum := by
  induction l with
  | nil => cases h
  | cons a l ih =>
    rw [List.map_cons, List.sum_cons]
    rcases List.mem_cons.1 h with rfl | h
    · omega
    · have := ih h; omega
theorem split_txt {s : List UInt8} {l : List Tkn} (h : SplitOut s 0 l) : ∀ t ∈ l, NmL t.text := by
  intro t ht
  rcases h with ⟨_, h, _⟩ | ⟨h, hk, _⟩ | ⟨_, _, _, _, rfl⟩
  · cases h
  · have h1 := (tokens_len hk).2
    have h2 := sum_mem ht
    show t.text.length < _
    omega
  · cases ht
theorem rd_start {w : World} {A : Option Addr} {n c : Nat} {s : List UInt8} {l : List Tkn} (hs : SplitOut s 0 l) (ht : TkS w A n c l) (hmx : Mx w) (L : LinkL) (hL : L.name = [] ∧ L.bodies = [] ∧ L.joints = [] ∧ L.drivers = []) : RdL w.heap.size (w.alloc (.cells #[.slice A n c, .string ⟨#[]⟩, .slice none 0 0, .slice none 0 0, .slice none 0 0, .nilIface] 100)) w.heap.size ⟨l, L, 0⟩ none 0 0 none 0 0 none 0 0 := by
  obtain ⟨h1, h2, h3, h4⟩ := hL
  have hb : Below w.heap.size w (w.alloc (.cells #[.slice A n c, .string ⟨#[]⟩, .slice none 0 0, .slice none 0 0, .slice none 0 0, .nilIface] 100)) := (Below.refl _ _).alloc (Nat.le_refl _) _
  refine ⟨⟨⟨A, n, c, ?_, (TkA.of_tks ht).belB hb⟩, (MxA.of_mx hmx).belB hb, Nat.le_refl _, hs.len, split_txt hs, by rw [h1]; exact ⟨rfl, rfl, rfl, rfl⟩⟩, by rw [h2]; exact RowT.nil, by rw [h3]; exact RowT.nil, by rw [h4]; exact RowT.nil, by rw [h1]; show ([] : List UInt8).length < _; decide, ?_, by rw [h2]; intro b hb; cases hb⟩
  · rw [h1]; exact Blk.new _ _ _
  · have := hs.len
    show 0 + 0 + 0 + l.length ≤ _
    omega
theorem RdL.call {B : Nat} {w w' : World} {gr : Nat} {s s' : PS} {A A' A'' : Option Addr} {n c n' c' n'' c'' : Nat} (h : RdL B w gr s A n c A' n' c' A'' n'' c'') (h' : RdP B w' gr (strV s.L.name) (.slice A n c) (.slice A' n' c') (.slice A'' n'' c'') s') (k : w.grownBy w' (some gr)) (hL : s'.L = s.L) (hl : s'.toks.length ≤ s.toks.length) : RdL B w' gr s' A n c A' n' c' A'' n'' c'' := by
  have t := h.rd.tchR k
  exact ⟨by rw [hL]; exact h', by rw [hL]; exact h.bd.tch t (by decide) (fun _ _ x => x.tch t (by decide)), by rw [hL]; exact h.jt.tch t (by decide) (fun _ _ x => x), by rw [hL]; exact h.dr.tch t (by decide) (fun _ _ x => x), by rw [hL]; exact h.nm, by have := h.cnt; omega, by rw [hL]; exact h.pts⟩
theorem RdL.below {B : Nat} {w w' : World} {gr : Nat} {s : PS} {A A' A'' : Option Addr} {n c n' c' n'' c'' : Nat} (h : RdL B w gr s A n c A' n' c' A'' n'' c'') (k : w.grownBy w' (some gr)) : Below B w w' := rg_bel k (by have := h.rd.lt; have := h.rd.hB; omega) h.rd.hB
theorem RdL.name {B : Nat} {w : World} {gr : Nat} {s : PS} {A A' A'' : Option Addr} {n c n' c' n'' c'' : Nat} (h : RdL B w gr s A n c A' n' c' A'' n'' c'') (nm : List UInt8) (hn : NmL nm) : RdL B (w.setCell ⟨gr, 1, none⟩ (strV nm)) gr { s with L := { s.L with name := nm } } A n c A' n' c' A'' n'' c'' := by
  have t := h.rd.tchR (rg_set (rg_refl gr w) 1 (strV nm))
  exact ⟨h.rd.put1 _ rfl rfl rfl, h.bd.tch t (by decide) (fun _ _ x => x.tch t (by decide)), h.jt.tch t (by decide) (fun _ _ x => x), h.dr.tch t (by decide) (fun _ _ x => x), hn, h.cnt, h.pts⟩
theorem RdL.belw {B : Nat} {w w' : World} {gr : Nat} {s : PS} {A A' A'' : Option Addr} {n c n' c' n'' c'' : Nat} (h : RdL B w gr s A n c A' n' c' A'' n'' c'') (k : Below w.heap.size w w') : RdL B w' gr s A n c A' n' c' A'' n'' c'' := by
  have t : Tch (fun _ => false) w w' := Tch.below k
  exact ⟨h.rd.belw k, h.bd.tch t rfl (fun _ _ x => x.tch t rfl), h.jt.tch t rfl (fun _ _ x => x), h.dr.tch t rfl (fun _ _ x => x), h.nm, h.cnt, h.pts⟩
end Go.Proofs.YtoiijifnfdgfpaaGreatDoor

/- Walks: parse.Body. -/
namespace Go.Proofs.YtoiijifnfdgfpaaGreatDoor
open Go Go.RowKit Bn
attribute [local go_sem ↓] Go.wp_at_zero Go.wp_at_succ
noncomputable def readB (l : List Tkn) : BodyL × PS :=
  let b := ((⟨l, L0, 0⟩ : PS).expect 0 wBody).body
  (b.1, if b.2.x = 0 ∧ b.2.toks ≠ [] then b.2.fail 2 else b.2)
def B0 : BodyL := ⟨[], []⟩
inductive BodyOut (s : List UInt8) (x : Int) (b : BodyL) : Prop
  | split (l : List Tkn) (hs : SplitOut s x l) (hx : x ≠ 0) (hb : b = B0)
  | read (l : List Tkn) (hs : SplitOut s 0 l) (hr : (readB l).2.x = x) (hx : x ≠ 0) (hb : b = B0)
  | ok (l : List Tkn) (hs : SplitOut s 0 l) (hr : (readB l).2.x = 0) (hx : x = 0) (hb : b = (readB l).1)
theorem BodyOut.uniq {s : List UInt8} {x y : Int} {b d : BodyL} (h : BodyOut s x b) (h' : BodyOut s y d) : x = y ∧ b = d := by
  cases h with
  | split l hs hx hL =>
    cases h' with
    | split l' hs' hx' hL' => exact ⟨(hs.uniq hs').1, by rw [hL, hL']⟩
    | read l' hs' _ _ _ => exact absurd (hs.uniq hs').1 hx
    | ok l' hs' _ _ _ => exact absurd (hs.uniq hs').1 hx
  | read l hs hr hx hL =>
    cases h' with
    | split l' hs' hx' hL' => exact absurd (hs.uniq hs').1.symm hx'
    | read l' hs' hr' hx' hL' =>
      obtain ⟨_, rfl⟩ := hs.uniq hs'
      exact ⟨hr.symm.trans hr', by rw [hL, hL']⟩
    | ok l' hs' hr' _ _ =>
      obtain ⟨_, rfl⟩ := hs.uniq hs'
      exact absurd (hr.symm.trans hr') hx
  | ok l hs hr hx hL =>
    cases h' with
    | split l' hs' hx' hL' => exact absurd (hs.uniq hs').1.symm hx'
    | read l' hs' hr' hx' hL' =>
      obtain ⟨_, rfl⟩ := hs.uniq hs'
      exact absurd (hr'.symm.trans hr) hx'
    | ok l' hs' hr' hx' hL' =>
      obtain ⟨_, rfl⟩ := hs.uniq hs'
      exact ⟨by rw [hx, hx'], by rw [hL, hL']⟩
def RetBdE (w : World) (v : Value) (b : BodyL) (e : Ending) (w' : World) : Prop :=
  ∃ A n c, e = .returned (.tuple #[.agg #[strV b.name, .slice A n c], v]) ∧ SlS (MkAt 130) 7 w' A n c b.pts ∧ NmL b.name ∧ Below w.heap.size w w'
theorem tch2 {w : World} {g : Nat} {t : TypeId} {a0 a1 : Value} (z : Blk w g t #[a0, a1]) (hz : noW a0 = true ∧ noW a1 = true) (u0 u1 : Value) : Tch (TOne t) w ((w.setCell ⟨g, 0, none⟩ u0).setCell ⟨g, 1, none⟩ u1) :=
  Tch.of_ne (by simp [World.setCell]) z (by simp [TOne]) (by simp [hz]) fun g' _ hne => by
    rw [Below.heap_setCell _ _ _ _ hne, Below.heap_setCell _ _ _ _ hne]
theorem nm_nil : NmL [] := by show ([] : List UInt8).length < _; decide
theorem bd_zero (w : World) (k : Nat) : SlS (MkAt k) 7 w none 0 0 B0.pts := ⟨rfl, Nat.le_refl _, fun h => absurd h (by omega)⟩
theorem bel2 {B g : Nat} {a w : World} (h : Below B a w) (hB : B ≤ g) (u0 u1 : Value) : Below B a ((w.setCell ⟨g, 0, none⟩ u0).setCell ⟨g, 1, none⟩ u1) := (h.setCell (p := ⟨g, 0, none⟩) hB u0).setCell (p := ⟨g, 1, none⟩) hB u1
theorem p_body_1 (w : World) (s : List UInt8) (x : Int) (l : List Tkn) (hs : SplitOut s x l) (hx : x ≠ 0) : Calls Tryz.prog 27 #[strV s] w (RetBdE w (errV x) B0) := by
 have HS := Lib.hid hs
 have HX := Lib.hid hx
 rw [eVp hx]
 clear hs hx
 go_enter Tryz.func27, Tryz.ntmps27
 go_wp2_with fail
 (with_reducible refine (t_split_x _ s x l HS.out).mono ?_); rintro e w1 ⟨A, n, c, rfl, _, hb1⟩
 rw [eVp HX.out]
 have z1 : Blk w1 w.heap.size 56 #[.string ⟨#[]⟩, .slice none 0 0] := (blkAt _ _ _ (by simp)).below hb1 (by simp)
 have cz0 := z1.c2
 have fz0 := z1.f2
 have q1 := hb1.q1
 clear hb1 z1
 go_wp2_with fail
 refine bodyPost_ret (v := .tuple #[.agg #[.string ⟨#[]⟩, .slice none 0 0], .iface 63 (.int .i64 x)]) (by simp [results, Tryz.results27, go_sem, *] <;> trivial) rfl ?_
 exact ⟨_, _, _, rfl, bd_zero _ _, nm_nil, bel2 q1 (Nat.le_refl _) _ _⟩
theorem p_body_2 (w : World) (s : List UInt8) (l : List Tkn) (hmx : Mx w) (hs : SplitOut s 0 l) (x : Int) (b : BodyL) (h : ((readB l).2.x ≠ 0 ∧ x = (readB l).2.x ∧ b = B0) ∨ ((readB l).2.x = 0 ∧ x = 0 ∧ b = (readB l).1)) : Calls Tryz.prog 27 #[strV s] w (RetBdE w (errV x) b) := by
 have HS := Lib.hid hs
 have HM := Lib.hid hmx
 have HH := Lib.hid h
 clear hs hmx h
 go_enter Tryz.func27, Tryz.ntmps27
 go_wp2_with fail
 (with_reducible refine (t_split_x _ s 0 l HS.out).mono ?_); rintro e w1 ⟨A, n, c, rfl, ht, hb1⟩
 rw [errV_0]
 have z1 : Blk w1 w.heap.size 56 #[.string ⟨#[]⟩, .slice none 0 0] := (blkAt _ _ _ (by simp)).below hb1 (by simp)
 have q1 := hb1.q1
 have hz1 := z1.lt
 have H1 := Lib.hid (rd_start HS.out ht (HM.out.belw q1) L0 ⟨rfl, rfl, rfl, rfl⟩).rd
 have Z1 := Lib.hid (z1.alloc (.cells #[.slice A n c, .string ⟨#[]⟩, .slice none 0 0, .slice none 0 0, .slice none 0 0, .nilIface] 100))
 have Q1 := Lib.hid (q1.alloc q1.size (.cells #[.slice A n c, .string ⟨#[]⟩, .slice none 0 0, .slice none 0 0, .slice none 0 0, .nilIface] 100))
 clear hb1 z1 q1 ht
 go_wp2_with fail
 (with_reducible refine (rd_expect w1.heap.size _ w1.heap.size _ _ _ _ ⟨l, L0, 0⟩ H1.out 0 0 rfl [98, 111, 100, 121]).mono ?_); rintro e w2 ⟨rfl, h2, hg2⟩
 have B2 : Below w1.heap.size _ w2 := rg_bel hg2 (by simp) (Nat.le_refl _)
 have Z2 := Lib.hid (Z1.out.below B2 hz1)
 have Q2 := Lib.hid (Q1.out.trans (B2.mono (by omega)))
 have hl2 := h2.lt
 have H2 := Lib.hid h2
 clear h2 hg2 B2 Z1 Q1 H1
 generalize hgr : w1.heap.size = gr at hz1 H2 hl2 ⊢
 have hs1 : (⟨l, L0, 0⟩ : PS).expect 0 [98, 111, 100, 121] = (⟨l, L0, 0⟩ : PS).expect 0 wBody := rfl
 rw [hs1] at H2
 clear hs1
 have h := HH.out
 unfold readB at h
 simp only at h
 generalize (⟨l, L0, 0⟩ : PS).expect 0 wBody = s1 at H2 h
 have HH2 := Lib.hid h
 clear h HH
 go_wp2_with fail
 (with_reducible refine (rd_body gr _ gr _ _ _ _ s1 H2.out).mono ?_); rintro e w3 ⟨A3, n3, c3, rfl, hm3, hnm3, h3, hg3⟩
 have B3 : Below gr _ w3 := rg_bel hg3 (by omega) (Nat.le_refl _)
 have Z3 := Lib.hid (Z2.out.below B3 hz1)
 have Q3 := Lib.hid (Q2.out.trans (B3.mono (by omega)))
 have hl3 := h3.lt
 have H3 := Lib.hid h3
 have M3 := Lib.hid hm3
 have N3 := Lib.hid hnm3
 clear h3 hg3 B3 hm3 hnm3 Z2 Q2 H2 hl2
 have h := HH2.out
 generalize s1.body = sb at H3 M3 N3 h ⊢
 have HH3 := Lib.hid h
 clear h HH2
 go_wp2_with fail
 obtain ⟨v, hv⟩ : ∃ v, decide (sb.2.x = 0 ∧ sb.2.toks ≠ []) = v := ⟨_, rfl⟩
 have HV := Lib.hid hv
 clear hv
 (with_reducible refine (rd_more gr _ gr _ _ _ _ sb.2 (H3.out.alloc _) v HV.out).mono ?_); rintro e w4 ⟨rfl, h4, hg4⟩
 have B4 : Below gr w3 w4 := ((Below.refl gr w3).alloc (by omega) _).trans (rg_bel hg4 (by simp; omega) (Nat.le_refl _))
 have x4 : Blk w4 w3.heap.size 56 #[strV sb.1.name, .slice A3 n3 c3] := rg_blk hg4 (Blk.new _ _ _) (by omega)
 have t4 : Tch (TOne 100) w3 w4 := (Tch.below ((Below.refl _ _).alloc (Nat.le_refl _) _)).trans ((H3.out.alloc _).tchR hg4)
 have M4 := Lib.hid (M3.out.tch t4 (by decide))
 have z4 := Z3.out.below B4 hz1
 have Z4 := Lib.hid z4
 have Q4 := Lib.hid (Q3.out.trans (B4.mono (by omega)))
 have H4 := Lib.hid h4
 have hl4 := h4.lt
 obtain ⟨D4, m4, e4, hb4, ht4⟩ := h4.blk
 have HB4 := Lib.hid hb4
 have HT4 := Lib.hid ht4
 obtain ⟨_, _, _, _, _, g5⟩ := hb4.c6
 obtain ⟨cz0, cz1⟩ := z4.c2
 obtain ⟨fz0, fz1⟩ := z4.f2
 obtain ⟨cx0, cx1⟩ := x4.c2
 have hne1 : ¬ gr = w.heap.size := by omega
 have hne2 : ¬ w3.heap.size = w.heap.size := by omega
 have hne3 : ¬ gr = w3.heap.size := by omega
 clear h4 hg4 B4 t4 z4 hb4 ht4 H3 M3 Z3 Q3
 cases v
 ·have hn := of_decide_eq_false HV.out
  have h := HH3.out
  rw [if_neg hn] at h
  clear hn
  rcases h with ⟨hx, rfl, rfl⟩ | ⟨hx, rfl, rfl⟩
  ·have HX := Lib.hid hx
   rw [eVp hx] at g5
   clear hx
   all_goals
    go_wp2_with fail
    go_region
    all_goals
     go_wp2_with fail
     refine bodyPost_ret (v := .tuple #[.agg #[.string ⟨#[]⟩, .slice none 0 0], .iface 63 (.int .i64 sb.2.x)]) (by simp [results, Tryz.results27, go_sem, *] <;> trivial) rfl ?_
     rw [eVp HX.out]
     exact ⟨_, _, _, rfl, bd_zero _ _, nm_nil, by first | exact bel2 Q4.out (Nat.le_refl _) _ _ | exact bel2 Q4.out.drew (Nat.le_refl _) _ _⟩
  ·rw [hx, errV_0] at g5
   clear hx
   go_wp2_with fail
   refine bodyPost_ret (v := .tuple #[.agg #[strV sb.1.name, .slice A3 n3 c3], .nilIface]) (by simp [results, Tryz.results27, go_sem, *] <;> trivial) rfl ?_
   rw [errV_0]
   have t5 := tch2 Z4.out ⟨rfl, rfl⟩ (strV sb.1.name) (.slice A3 n3 c3)
   exact ⟨_, _, _, rfl, (M4.out.tch t5 (by decide)).sl fun _ _ _ p => p, N3.out, bel2 Q4.out (Nat.le_refl _) _ _⟩
 ·have hn := of_decide_eq_true HV.out
  have h := HH3.out
  have e2 : sb.2.fail 2 = { sb.2 with x := 2 } := if_pos hn.1
  rw [if_pos hn, e2] at h
  rcases h with ⟨_, rfl, rfl⟩ | ⟨hx, _⟩
  ·have HX0 := Lib.hid hn.1
   clear hn e2 g5
   go_wp2_with fail
   (with_reducible refine (rd_fail _ gr (.slice D4 m4 e4) _ _ _ _ sb.2.x 2 HB4.out (by decide)).mono ?_); rintro e w5 ⟨rfl, hb5, hg5⟩
   rw [if_pos HX0.out, errV_2] at hb5
   obtain ⟨_, _, _, _, _, g5⟩ := hb5.c6
   have B5 : Below gr w4 w5 := rg_bel hg5 (by omega) (Nat.le_refl _)
   have z5 := Z4.out.below B5 hz1
   have Q5 := Lib.hid (Q4.out.trans (B5.mono (by omega)))
   have hl5 := hb5.lt
   clear cz0 cz1 fz0 fz1 cx0 cx1
   obtain ⟨cz0, cz1⟩ := z5.c2
   obtain ⟨fz0, fz1⟩ := z5.f2
   clear hb5 hg5 B5 z5
   all_goals
    go_wp2_with fail
    go_region
    all_goals
     go_wp2_with fail
     refine bodyPost_ret (v := .tuple #[.agg #[.string ⟨#[]⟩, .slice none 0 0], .iface 63 (.int .i64 2)]) (by simp [results, Tryz.results27, go_sem, *] <;> trivial) rfl ?_
     rw [errV_2]
     exact ⟨_, _, _, rfl, bd_zero _ _, nm_nil, by first | exact bel2 Q5.out (Nat.le_refl _) _ _ | exact bel2 Q5.out.drew (Nat.le_refl _) _ _⟩
  ·exact absurd (show (2 : Int) = 0 from hx) (by decide)
theorem ps_body (w : World) (s : List UInt8) (x : Int) (b : BodyL) (hmx : Mx w) (h : BodyOut s x b) : Calls Tryz.prog 27 #[strV s] w (RetBdE w (errV x) b) := by
  rcases h with ⟨l, hs, hx, rfl⟩ | ⟨l, hs, hr, hx, rfl⟩ | ⟨l, hs, hr, rfl, rfl⟩
  · exact p_body_1 w s x l hs hx
  · exact p_body_2 w s l hmx hs x B0 (.inl ⟨by rw [hr]; exact hx, hr.symm, rfl⟩)
  · exact p_body_2 w s l hmx hs 0 _ (.inr ⟨hr, rfl, rfl⟩)
end Go.Proofs.YtoiijifnfdgfpaaGreatDoor

/- Reading what was printed, plain: a linkage's text is read as the linkage. -/
namespace Go.Proofs.YtoiijifnfdgfpaaGreatDoor
open Go Go.RowKit Bn
attribute [local go_sem ↓] Go.wp_at_zero Go.wp_at_succ
/-! The tokens of a linkage. -/
def markK (m : MarkL) : List (Nat × List UInt8) := [(0, m.name), (1, ratText m.x.q), (1, ratText m.y.q), (2, [59])]
def bodyK (b : BodyL) : List (Nat × List UInt8) := (0, wBody) :: (0, b.name) :: (2, [123]) :: (b.pts.flatMap markK ++ [(2, [125])])
def fullK (bs : List BodyL) (i j : Int) : List (Nat × List UInt8) := match bs[i.toNat]? with
  | some b => (match b.pts[j.toNat]? with | some m => [(0, b.name), (2, [46]), (0, m.name)] | none => [])
  | none => []
def jointK (bs : List BodyL) (j : JointL) : List (Nat × List UInt8) :=
  (0, if j.kind = 1 then wSlide else wPin) :: (0, j.name) :: (fullK bs j.a j.point ++ (fullK bs j.b j.on ++ ((if j.kind = 1 then fullK bs j.b j.to_ else []) ++ [(2, [59])])))
def driverK (bs : List BodyL) (d : DriverL) : List (Nat × List UInt8) := [(0, wDriver), (0, d.name), (0, nameT bs d.body), (2, [59])]
theorem fullK_v {bs : List BodyL} {i j : Nat} {b : BodyL} {m : MarkL} (hb : bs[i]? = some b) (hm : b.pts[j]? = some m) : fullK bs (i : Nat) (j : Nat) = [(0, b.name), (2, [46]), (0, m.name)] := by
  unfold fullK
  show (match bs[i]? with | some b => (match b.pts[j]? with | some m => [(0, b.name), (2, [46]), (0, m.name)] | none => []) | none => []) = _
  rw [hb]
  show (match b.pts[j]? with | some m => [(0, b.name), (2, [46]), (0, m.name)] | none => []) = _
  rw [hm]
/-! Splitting. -/
theorem hd_c {p : UInt8 → Prop} {c : UInt8} {t : List UInt8} (h : p c) : ∀ c' t', c :: t = c' :: t' → p c' := fun c' t' e => by injection e with e _; subst e; exact h
def MkN (m : MarkL) : Prop := (ratText m.x.q).length ≤ 60 ∧ (ratText m.y.q).length ≤ 60
theorem Spl.mark {m : MarkL} {s : List UInt8} {K : List (Nat × List UInt8)} (hm : nameOk m.name = true) (hn : MkN m) (h : Spl s K) : Spl (markText m ++ s) (markK m ++ K) := by
  unfold markText markK
  simp only [List.cons_append, List.append_assoc, List.nil_append]
  exact .blank (.word hm (hd_c (by decide)) (.blank (.num hn.1 (hd_c (.inl rfl)) (.blank (.num hn.2 (hd_c (.inr rfl)) (.sign (by decide) h))))))
theorem Spl.marks {s : List UInt8} {K : List (Nat × List UInt8)} (h : Spl s K) : ∀ {l : List MarkL}, (∀ m ∈ l, nameOk m.name = true ∧ MkN m) → Spl (l.flatMap markText ++ s) (l.flatMap markK ++ K)
  | [], _ => h
  | m :: l, hl => by
    rw [List.flatMap_cons, List.flatMap_cons, List.append_assoc, List.append_assoc]
    have := hl m (by simp)
    exact .mark this.1 this.2 (Spl.marks h fun x hx => hl x (by simp [hx]))
theorem Spl.body {b : BodyL} {s : List UInt8} {K : List (Nat × List UInt8)} (hb : nameOk b.name = true) (hp : ∀ m ∈ b.pts, nameOk m.name = true ∧ MkN m) (h : Spl s K) : Spl (bodyText b ++ s) (bodyK b ++ K) := by
  unfold bodyText bodyK
  simp only [List.cons_append, List.append_assoc, List.nil_append]
  have hm : Spl (b.pts.flatMap markText ++ 32 :: 125 :: s) (b.pts.flatMap markK ++ (2, [125]) :: K) := Spl.marks (.blank (.sign (by decide) h)) hp
  exact Spl.word (x := wBody) (by decide) (hd_c (by decide)) (.blank (.word hb (hd_c (by decide)) (.blank (.sign (by decide) hm))))
theorem Spl.full {bs : List BodyL} {i j : Nat} {b : BodyL} {m : MarkL} (hb : bs[i]? = some b) (hm : b.pts[j]? = some m) (n1 : nameOk b.name = true) (n2 : nameOk m.name = true) {s : List UInt8} {K : List (Nat × List UInt8)} (hs : ∀ c t, s = c :: t → isPart c = false) (h : Spl s K) : Spl (fullT bs (i : Nat) (j : Nat) ++ s) (fullK bs (i : Nat) (j : Nat) ++ K) := by
  rw [fullT_v hb hm, fullK_v hb hm]
  simp only [List.cons_append, List.append_assoc, List.nil_append]
  exact .word n1 (hd_c (by decide)) (.sign (by decide) (.word n2 hs h))
theorem Spl.joint {bs : List BodyL} (hB : ∀ b ∈ bs, BdF b) {j : JointL} (hn : nameOk j.name = true) (hj : JointOk bs j) {s : List UInt8} {K : List (Nat × List UInt8)} (h : Spl s K) : Spl (jointText bs j ++ s) (jointK bs j ++ K) := by
  obtain ⟨_, a, b, p, o, x, y, m1, m2, ea, eb, ep, eo, hx, hy, hm1, hm2, hk⟩ := hj
  have bx := hB x (List.mem_of_getElem? hx)
  have by_ := hB y (List.mem_of_getElem? hy)
  have n1 := (bx.pts m1 (List.mem_of_getElem? hm1)).name
  have n2 := (by_.pts m2 (List.mem_of_getElem? hm2)).name
  unfold jointText jointK jointWords
  rcases hk with ⟨k0, _⟩ | ⟨k1, t, m3, et, hm3⟩
  · rw [if_neg (by omega), if_neg (by omega), if_neg (by omega), ea, eb, ep, eo]
    simp only [joinT, List.cons_append, List.append_assoc, List.nil_append]
    exact Spl.word (x := wPin) (by decide) (hd_c (by decide)) (.blank (.word hn (hd_c (by decide)) (.blank (.full hx hm1 bx.name n1 (hd_c (by decide)) (.blank (.full hy hm2 by_.name n2 (hd_c (by decide)) (.sign (by decide) (.line h))))))))
  · have n3 := (by_.pts m3 (List.mem_of_getElem? hm3)).name
    rw [if_pos k1, if_pos k1, if_pos k1, ea, eb, ep, eo, et]
    simp only [joinT, List.cons_append, List.append_assoc, List.nil_append]
    exact Spl.word (x := wSlide) (by decide) (hd_c (by decide)) (.blank (.word hn (hd_c (by decide)) (.blank (.full hx hm1 bx.name n1 (hd_c (by decide)) (.blank (.full hy hm2 by_.name n2 (hd_c (by decide)) (.blank (.full hy hm3 by_.name n3 (hd_c (by decide)) (.sign (by decide) (.line h))))))))))
theorem Spl.driver {bs : List BodyL} (hB : ∀ b ∈ bs, BdF b) {d : DriverL} (hn : nameOk d.name = true) (hd : DriverOk bs d) {s : List UInt8} {K : List (Nat × List UInt8)} (h : Spl s K) : Spl (driverText bs d ++ s) (driverK bs d ++ K) := by
  obtain ⟨_, i, b, ei, hb⟩ := hd
  have bb := hB b (List.mem_of_getElem? hb)
  unfold driverText driverK
  rw [ei, nameT_v hb]
  simp only [List.cons_append, List.append_assoc, List.nil_append]
  exact Spl.word (x := wDriver) (by decide) (hd_c (by decide)) (.blank (.word hn (hd_c (by decide)) (.blank (.word bb.name (hd_c (by decide)) (.sign (by decide) (.line h))))))
theorem Spl.list {α : Type} {f : α → List UInt8} {g : α → List (Nat × List UInt8)} {s : List UInt8} {K : List (Nat × List UInt8)} (h : Spl s K) : ∀ {l : List α}, (∀ a ∈ l, ∀ s K, Spl s K → Spl (f a ++ s) (g a ++ K)) → Spl (l.flatMap f ++ s) (l.flatMap g ++ K)
  | [], _ => h
  | a :: l, hl => by
    rw [List.flatMap_cons, List.flatMap_cons, List.append_assoc, List.append_assoc]
    exact hl a (by simp) _ _ (Spl.list h fun x hx => hl x (by simp [hx]))
theorem long_not {l : List BodyL} (h : longL l ≠ true) : ∀ b ∈ l, ∀ m ∈ b.pts, MkN m := by
  intro b hb m hm
  have h1 : ¬ longM m = true := fun h2 => h (by
    unfold longL
    rw [List.any_eq_true]
    exact ⟨b, hb, List.any_eq_true.2 ⟨m, hm, h2⟩⟩)
  unfold longM at h1
  simp only [Bool.or_eq_true, decide_eq_true_eq, not_or] at h1
  exact ⟨by omega, by omega⟩
theorem Spl.out {s : List UInt8} {K : List (Nat × List UInt8)} (h : Spl s K) (hl : s.length ≤ 65536) : ∃ l, SplitOut s 0 l ∧ kt l = K := by
  have h1 := h 1 1
  have e : tk s 1 1 = tokens s := rfl
  rw [e] at h1
  cases ht : tokens s with
  | err x => rw [ht] at h1; cases h1
  | ok l =>
    rw [ht] at h1
    injection h1 with h1
    exact ⟨l, .ok hl ht rfl, h1⟩
/-! Reading. -/
theorem AtK.mark {s : PS} {m : MarkL} {K : List (Nat × List UInt8)} {L : LinkL} (h : AtK s (markK m ++ K) L) (hn : MkN m) (hF : MkF m) (hW : MkW m) : s.mark.1 = m ∧ AtK s.mark.2 K L := by
  obtain ⟨e1, h1⟩ := AtK.word h
  obtain ⟨vx, vq⟩ := val_rat hn.1
  obtain ⟨wx, wq⟩ := val_rat hn.2
  obtain ⟨e2, h2⟩ := h1.number vx
  obtain ⟨e3, h3⟩ := h2.number wx
  unfold PS.mark
  refine ⟨?_, h3.expect⟩
  rw [e1, e2, e3, vq, wq, rd_of_ok hW.1.1 hW.1.2 hF.x, rd_of_ok hW.2.1 hW.2.2 hF.y]
theorem AtK.marks : ∀ {l : List MarkL} {f : Nat} {s : PS} {p : List MarkL} {K : List (Nat × List UInt8)} {L : LinkL}, (∀ m ∈ l, MkN m ∧ MkF m ∧ MkW m) → l.length < f → AtK s (l.flatMap markK ++ (2, [125]) :: K) L → (PS.marks f s p).1 = p ++ l ∧ AtK (PS.marks f s p).2 K L
  | [], f, s, p, K, L, _, hf, h => by
    have hs : s.signHead = true := by
      obtain ⟨u, r, e, e1, _, _⟩ := AtK.head (k := 2) (t := [125]) (K := K) h
      unfold PS.signHead
      rw [e]
      show (u.kind == 2) = true
      rw [e1]; rfl
    rw [marks_end (by omega) h.x hs]
    exact ⟨by simp, AtK.expect h⟩
  | m :: l, f, s, p, K, L, hl, hf, h => by
    rw [List.flatMap_cons, List.append_assoc] at h
    have hs : s.signHead = false := by
      obtain ⟨u, r, e, e1, _, _⟩ := AtK.head (k := 0) (t := m.name) h
      unfold PS.signHead
      rw [e]
      show (u.kind == 2) = false
      rw [e1]; rfl
    rw [List.length_cons] at hf
    rw [marks_step (by omega) h.x hs]
    obtain ⟨h1, h2, h3⟩ := hl m (by simp)
    obtain ⟨e1, h4⟩ := AtK.mark h h1 h2 h3
    obtain ⟨e2, h5⟩ := AtK.marks (l := l) (f := f - 1) (p := p ++ [s.mark.1]) (fun x hx => hl x (by simp [hx])) (by omega) h4
    refine ⟨?_, h5⟩
    rw [e2, e1]; simp
theorem kt_len (l : List Tkn) : (kt l).length = l.length := by unfold kt; simp
theorem marksK_len : ∀ (l : List MarkL), l.length ≤ (l.flatMap markK).length
  | [] => by simp
  | m :: l => by
    have := marksK_len l
    rw [List.flatMap_cons, List.length_append, List.length_cons]
    show _ ≤ 4 + _
    omega
theorem AtK.body {s : PS} {b : BodyL} {K : List (Nat × List UInt8)} {L : LinkL} (h : AtK s ((0, b.name) :: (2, [123]) :: (b.pts.flatMap markK ++ (2, [125]) :: K)) L) (hb : ∀ m ∈ b.pts, MkN m ∧ MkF m ∧ MkW m) : s.body.1 = b ∧ AtK s.body.2 K L := by
  have hlen : b.pts.length < s.toks.length + 1 := by
    have h1 := congrArg List.length h.k
    rw [kt_len] at h1
    have := marksK_len b.pts
    simp only [List.length_cons, List.length_append] at h1
    omega
  obtain ⟨e1, h1⟩ := h.word
  obtain ⟨e2, h2⟩ := AtK.marks (p := []) hb hlen h1.expect
  refine ⟨?_, h2⟩
  show (⟨s.word.1, (PS.marks (s.toks.length + 1) (s.word.2.expect 2 [123]) []).1⟩ : BodyL) = b
  rw [e1, e2]
  rfl
theorem find_at {α : Type} {nm : α → List UInt8} {l : List α} (hd : ∀ {i j : Nat} {a b : α}, l[i]? = some a → l[j]? = some b → nm a = nm b → i = j) {i : Nat} {a : α} (ha : l[i]? = some a) : l.findIdx? (fun b => nm b == nm a) = some i := by
  obtain ⟨hi, e⟩ := List.getElem?_eq_some_iff.1 ha
  rw [List.findIdx?_eq_some_iff_getElem]
  refine ⟨hi, by rw [e]; simp, fun j hj => ?_⟩
  intro h
  have h2 : nm l[j] = nm a := by simpa using h
  have := hd (List.getElem?_eq_getElem (by omega : j < l.length)) ha h2
  omega
theorem AtK.named {s : PS} {K : List (Nat × List UInt8)} {L : LinkL} {nm : List UInt8} {i : Nat} {only : Int} (h : AtK s ((0, nm) :: K) L) (hf : findB L.bodies nm = some i) (ho : only < 0 ∨ only = (i : Int)) : (s.named only).1 = (i : Int) ∧ AtK (s.named only).2 K L := by
  obtain ⟨e1, h1⟩ := h.word
  unfold PS.named
  simp only
  rw [if_neg (by rw [h1.x]; simp), e1, h1.l, hf]
  show (i : Int) = (i : Int) ∧ AtK (if 0 ≤ only ∧ (i : Int) ≠ only then s.word.2.fail 7 else s.word.2) K L
  rw [if_neg (by rcases ho with h | h; omega; rw [h]; simp)]
  exact ⟨rfl, h1⟩
theorem AtK.full {s : PS} {K : List (Nat × List UInt8)} {L : LinkL} {i j : Nat} {b : BodyL} {m : MarkL} {only : Int} (hb : L.bodies[i]? = some b) (hm : b.pts[j]? = some m) (h : AtK s (fullK L.bodies (i : Nat) (j : Nat) ++ K) L) (hf : findB L.bodies b.name = some i) (hg : findM b.pts m.name = some j) (ho : only < 0 ∨ only = (i : Int)) : (s.full only).1 = (i : Int) ∧ (s.full only).2.1 = (j : Int) ∧ AtK (s.full only).2.2 K L := by
  rw [fullK_v hb hm] at h
  obtain ⟨e1, h1⟩ := AtK.named (K := (2, [46]) :: (0, m.name) :: K) h hf ho
  obtain ⟨e2, h2⟩ := h1.expect.word
  unfold PS.full
  simp only
  rw [if_neg (by rw [h2.x]; simp), e1, e2, h2.l, ptsAt_v (n := i) rfl hb, hg]
  exact ⟨rfl, rfl, h2⟩
theorem AtK.addJ {s : PS} {K : List (Nat × List UInt8)} {L : LinkL} (h : AtK s K L) (j : JointL) : AtK (s.addJ j) K { L with joints := L.joints ++ [j] } := ⟨h.x, h.k, by
  show ({ s.L with joints := s.L.joints ++ [j] } : LinkL) = _
  rw [h.l]⟩
theorem AtK.joint {s : PS} {K : List (Nat × List UInt8)} {L : LinkL} (hB : ∀ b ∈ L.bodies, BdF b) (hd : ∀ {i j : Nat} {a b : BodyL}, L.bodies[i]? = some a → L.bodies[j]? = some b → a.name = b.name → i = j) {j : JointL} (hj : JointOk L.bodies j) (h : AtK s (jointK L.bodies j ++ K) L) : AtK s.item K { L with joints := L.joints ++ [j] } := by
  obtain ⟨_, a, b, p, o, x, y, m1, m2, ea, eb, ep, eo, hx, hy, hm1, hm2, hk⟩ := hj
  have bx := hB x (List.mem_of_getElem? hx)
  have by_ := hB y (List.mem_of_getElem? hy)
  have fx : findB L.bodies x.name = some a := find_at (nm := BodyL.name) hd hx
  have fy : findB L.bodies y.name = some b := find_at (nm := BodyL.name) hd hy
  have g1 : findM x.pts m1.name = some p := find_at (nm := MarkL.name) bx.dist hm1
  have g2 : findM y.pts m2.name = some o := find_at (nm := MarkL.name) by_.dist hm2
  unfold jointK at h
  rcases hk with ⟨k0, t0⟩ | ⟨k1, t, m3, et, hm3⟩
  · rw [if_neg (by omega), if_neg (by omega), ea, eb, ep, eo] at h
    simp only [List.cons_append, List.append_assoc, List.nil_append] at h
    obtain ⟨e0, h0⟩ := h.word
    obtain ⟨e1, h1⟩ := h0.word
    obtain ⟨e2, e3, h2⟩ := AtK.full (only := -1) hx hm1 h1 fx g1 (.inl (by decide))
    obtain ⟨e4, e5, h3⟩ := AtK.full (only := -1) hy hm2 h2 fy g2 (.inl (by decide))
    unfold PS.item
    simp only
    rw [e0, if_neg (by decide), if_pos rfl]
    unfold PS.joint
    simp only [Bool.false_eq_true, if_false]
    have hj : (⟨j.name, 0, (a : Int), (p : Int), (b : Int), (o : Int), 0⟩ : JointL) = j := by
      obtain ⟨jn, jk, ja, jp, jb, jo, jt⟩ := j
      simp only at ea eb ep eo k0 t0
      subst ea eb ep eo k0 t0
      rfl
    rw [e1, e2, e3, e4, e5, hj]
    exact h3.expect.addJ j
  · have g3 : findM y.pts m3.name = some t := find_at (nm := MarkL.name) by_.dist hm3
    rw [if_pos k1, if_pos k1, ea, eb, ep, eo, et] at h
    simp only [List.cons_append, List.append_assoc, List.nil_append] at h
    obtain ⟨e0, h0⟩ := h.word
    obtain ⟨e1, h1⟩ := h0.word
    obtain ⟨e2, e3, h2⟩ := AtK.full (only := -1) hx hm1 h1 fx g1 (.inl (by decide))
    obtain ⟨e4, e5, h3⟩ := AtK.full (only := -1) hy hm2 h2 fy g2 (.inl (by decide))
    obtain ⟨e6, e7, h4⟩ := AtK.full (only := (b : Int)) hy hm3 h3 fy g3 (.inr rfl)
    unfold PS.item
    simp only
    rw [e0, if_neg (by decide), if_neg (by decide), if_pos rfl]
    unfold PS.joint
    simp only [if_true]
    have hj : (⟨j.name, 1, (a : Int), (p : Int), (b : Int), (o : Int), (t : Int)⟩ : JointL) = j := by
      obtain ⟨jn, jk, ja, jp, jb, jo, jt⟩ := j
      simp only at ea eb ep eo k1 et
      subst ea eb ep eo k1 et
      rfl
    rw [e4, e1, e2, e3, e5, e7, hj]
    exact h4.expect.addJ j
theorem AtK.driver {s : PS} {K : List (Nat × List UInt8)} {L : LinkL} (hd : ∀ {i j : Nat} {a b : BodyL}, L.bodies[i]? = some a → L.bodies[j]? = some b → a.name = b.name → i = j) {d : DriverL} (hj : DriverOk L.bodies d) (h : AtK s (driverK L.bodies d ++ K) L) : AtK s.item K { L with drivers := L.drivers ++ [d] } := by
  obtain ⟨_, i, b, ei, hb⟩ := hj
  have fb : findB L.bodies b.name = some i := find_at (nm := BodyL.name) hd hb
  unfold driverK at h
  rw [ei, nameT_v hb] at h
  simp only [List.cons_append, List.nil_append] at h
  obtain ⟨e0, h0⟩ := h.word
  obtain ⟨e1, h1⟩ := h0.word
  obtain ⟨e2, h2⟩ := AtK.named (only := -1) h1 fb (.inl (by decide))
  unfold PS.item
  simp only
  rw [e0, if_neg (by decide), if_neg (by decide), if_neg (by decide), if_pos rfl]
  unfold PS.driver
  simp only
  refine ⟨h2.expect.x, h2.expect.k, ?_⟩
  show ({ (PS.expect _ 2 [59]).L with drivers := _ } : LinkL) = _
  rw [h2.expect.l, e1, e2]
  obtain ⟨dn, db⟩ := d
  simp only at ei
  subst ei
  rfl
def FinL (s : PS) (L : LinkL) : Prop := ∀ f, s.toks.length < f → (PS.items f s).x = 0 ∧ (PS.items f s).L = L
theorem FinL.nil {s : PS} {L : LinkL} (h : AtK s [] L) : FinL s L := fun f _ => by
  have e : s.toks = [] := List.eq_nil_of_length_eq_zero (by have := congrArg List.length h.k; rw [kt_len] at this; simpa using this)
  rw [items_end (by rw [e]; simp)]
  exact ⟨h.x, h.l⟩
theorem FinL.step {s : PS} {p : Nat × List UInt8} {K K' : List (Nat × List UInt8)} {M M' L : LinkL} (h : AtK s (p :: K) M) (h' : AtK s.item K' M') (k : FinL s.item L) : FinL s L := fun f hf => by
  obtain ⟨u, r, e, _, _, _⟩ := AtK.head (k := p.1) (t := p.2) h
  have h1 := (item_len s).2 h'.x
  rw [items_step (by omega) ⟨h.x, by rw [e]; simp⟩]
  exact k _ (by omega)
theorem FinL.list {α : Type} {g : α → List (Nat × List UInt8)} (add : LinkL → α → LinkL) (P : LinkL → Prop) {K : List (Nat × List UInt8)} {L : LinkL} : ∀ (l : List α) (s : PS) (M : LinkL), (∀ a ∈ l, ∃ p q, g a = p :: q) → (∀ a ∈ l, ∀ s K M, P M → AtK s (g a ++ K) M → AtK s.item K (add M a) ∧ P (add M a)) → P M → (∀ s, AtK s K (l.foldl add M) → P (l.foldl add M) → FinL s L) → AtK s (l.flatMap g ++ K) M → FinL s L
  | [], s, M, _, _, hp, hk, h => hk s h hp
  | a :: l, s, M, hne, hs, hp, hk, h => by
    rw [List.flatMap_cons, List.append_assoc] at h
    obtain ⟨h1, h2⟩ := hs a (by simp) s _ M hp h
    obtain ⟨p, q, e⟩ := hne a (by simp)
    rw [e, List.cons_append] at h
    exact FinL.step h h1 (FinL.list add P l s.item (add M a) (fun x hx => hne x (by simp [hx])) (fun x hx => hs x (by simp [hx])) h2 hk h1)
theorem body_read {b : BodyL} (hb : BdF b) (hW : ∀ m ∈ b.pts, MkW m) (hN : ∀ m ∈ b.pts, MkN m) (hl : (bodyText b).length ≤ 65536) : BodyOut (bodyText b) 0 b := by
  have h := Spl.body (s := []) (K := []) hb.name (fun m hm => ⟨(hb.pts m hm).name, hN m hm⟩) Spl.nil
  rw [List.append_nil, List.append_nil] at h
  obtain ⟨l, hs, hk⟩ := h.out hl
  have h0 : AtK (⟨l, L0, 0⟩ : PS) (bodyK b) L0 := ⟨rfl, hk, rfl⟩
  unfold bodyK at h0
  obtain ⟨e1, h1⟩ := AtK.body (K := []) h0.expect (fun m hm => ⟨hN m hm, hb.pts m hm, hW m hm⟩)
  have e : ((⟨l, L0, 0⟩ : PS).expect 0 wBody).body.2.toks = [] := List.eq_nil_of_length_eq_zero (by have := congrArg List.length h1.k; rw [kt_len] at this; simpa using this)
  have hr : readB l = (b, ((⟨l, L0, 0⟩ : PS).expect 0 wBody).body.2) := by
    unfold readB
    simp only
    rw [if_neg (by rw [e]; simp), e1]
  exact .ok l hs (by rw [hr]; exact h1.x) rfl (by rw [hr])
end Go.Proofs.YtoiijifnfdgfpaaGreatDoor

/- Reading, plain: where a token stands makes no difference. -/
namespace Go.Proofs.YtoiijifnfdgfpaaGreatDoor
open Go Go.RowKit Bn
attribute [local go_sem ↓] Go.wp_at_zero Go.wp_at_succ
def plT (t : Tkn) : Tkn := ⟨t.kind, t.text, 0, 0⟩
def PS.st (s : PS) : PS := { s with toks := s.toks.map plT }
end Go.Proofs.YtoiijifnfdgfpaaGreatDoor

/- Walks: the text of a linkage (program). -/
namespace Go.Proofs.YtoiijifnfdgfpaaGreatDoor
open Go Go.RowKit Bn
attribute [local go_sem ↓] Go.wp_at_zero Go.wp_at_succ
theorem BodyOk.nm {b : BodyL} (h : BodyOk b) : b.name.length ≤ 1000 := by have := h.1; omega
theorem BodyOk.mks {b : BodyL} (h : BodyOk b) : ∀ m ∈ b.pts, m.name.length ≤ 1000 := fun m hm => by have := (h.2.2 m hm).1; omega
theorem BodyOk.np {b : BodyL} (h : BodyOk b) : b.pts.length ≤ 8 := h.2.1
theorem Sees.al {w0 w : World} (h : Below w0.heap.size w0 w) (o : Obj) : Sees w0.heap.size w0 (w.alloc o) := Sees.of (Nat.le_refl _) (h.alloc h.size o)
theorem Blk.strs {w : World} {g t : Nat} {l : List (List UInt8)} (h : Blk w g t (strCs l).toArray) (k : Nat) (x : List UInt8) (hx : l[k]? = some x) : w.cell? ⟨g, k, none⟩ = some (strV x) := by
  rw [h.cell k, List.getElem?_toArray]
  unfold strCs
  rw [List.getElem?_map, hx]
  rfl
theorem Blk.owns {w : World} {base g t n : Nat} {l : List (List UInt8)} (h : Blk w g t (strCs l).toArray) (hb : base ≤ g) (hl : l.length = n) (hn : n ≤ 1000) : w.ownsRow base t 1 (.slice (some ⟨g, 0, none⟩) n n) n (strCs l) := by
  subst hl
  exact ⟨by simp [strCs], .inr ⟨g, _, _, rfl, hb, h, Nat.le_refl _, by unfold maxLen; omega, by simp [strCs], by rw [List.take_of_length_le (by simp [strCs])]⟩⟩
theorem owns_strs {w : World} {base t n g cap : Nat} {l : List (List UInt8)} (h : w.ownsRow base t 1 (.slice (some ⟨g, 0, none⟩) n cap) n (strCs l)) : n ≤ cap ∧ ∀ (k : Nat) x, l[k]? = some x → w.cell? ⟨g, k, none⟩ = some (strV x) := by
  rcases h.2 with ⟨h1, _⟩ | ⟨g', cap', cur, h1, _, h3, h4, _, _, h7⟩
  · cases h1
  · injection h1 with h1 _ h1'
    injection h1 with h1
    injection h1 with h1
    subst h1 h1'
    refine ⟨h4, fun k x hx => ?_⟩
    rw [cell_of_row w g k cur _ (0, 0) h3]
    have h9 : (strCs l)[k]? = some (strV x) := by unfold strCs; rw [List.getElem?_map, hx]; rfl
    rw [← h7, List.getElem?_take] at h9
    split at h9
    · simpa using h9
    · cases h9
abbrev SD (g g1 g2 o2 : Nat) (a0 a1 a2 a3 : Value) (w : World) : Prop := w.cell? ⟨g, 0, none⟩ = some a0 ∧ w.cell? ⟨g, 1, none⟩ = some a1 ∧ w.cell? ⟨g1, 1, none⟩ = some a2 ∧ w.cell? ⟨g2, o2, none⟩ = some a3
theorem SlS.bodyShort {w : World} {A : Option Addr} {n c : Nat} {l : List BodyL} (h : SlS (BdAt 40) 2 w A n c l) (ho : ∀ b ∈ l, BodyOk b) : ∀ b ∈ l, ∀ m ∈ b.pts, MkShort m := by
  intro b hb
  obtain ⟨i, hi, e⟩ := List.getElem_of_mem hb
  obtain ⟨g, o, a, _, _, _, ha, hp⟩ := h.at_ (i := i) (by rw [← h.1]; exact hi)
  rw [List.getElem?_eq_getElem hi] at ha
  injection ha with ha
  rw [← ha, e] at hp
  obtain ⟨A', n', c', _, _, hM, _⟩ := hp
  exact hM.short fun m hm => by have := ((ho b hb).2.2 m hm).1; omega
theorem SlS.lineLen {w : World} {A : Option Addr} {n c : Nat} {l : List BodyL} (h : SlS (BdAt 40) 2 w A n c l) (ho : ∀ b ∈ l, BodyOk b) : ∀ b ∈ l, (lineText b).length ≤ 30000 := fun b hb => bodyText_len (ho b hb).1 (ho b hb).2.1 (h.bodyShort ho b hb)
theorem p_lk_err (w : World) (A : Option Addr) (n c : Nat) (B : Option Addr) (p d : Nat) (C : Option Addr) (q e : Nat) (L : LinkL) (h : LkS 40 w A n c B p d C q e L) (he : lkErr L ≠ 0) : Calls Tryz.prog 37 #[.agg #[strV L.name, .slice A n c, .slice B p d, .slice C q e]] w (fun e' w' => e' = .returned (.tuple #[strV [], errV (lkErr L)]) ∧ Below w.heap.size w w') := by
 obtain ⟨x, hx⟩ : ∃ x, lkErr L = x := ⟨_, rfl⟩
 rw [hx] at he ⊢
 have HX := Lib.hid hx
 have H := Lib.hid h
 have hev : errV x = .iface 63 (.int .i64 x) := if_neg he
 rw [hev]
 have HE := Lib.hid hev
 clear h hx hev
 go_enter Tryz.func37, Tryz.ntmps37
 go_wp2_with fail
 have q0 : Below w.heap.size w (w.alloc (.cells #[strV L.name, .slice A n c, .slice B p d, .slice C q e] 36)) := (brefl w).alloc (Nat.le_refl _) _
 (with_reducible refine (m_check _ A n c B p d C q e L 40 (H.out.belw q0) (by decide) (by decide) x HX.out).mono ?_); rintro e' w1 ⟨rfl, hb1⟩
 rw [HE.out]
 have q1 := q0.trans (hb1.mono q0.size)
 clear hb1
 go_wp2_with fail
 go_ret2
 exact ⟨rfl, q1⟩
theorem p_lk_ok (w : World) (A : Option Addr) (n c : Nat) (B : Option Addr) (p d : Nat) (C : Option Addr) (q e : Nat) (L : LinkL) (h : LkS 40 w A n c B p d C q e L) (htab : Tab w) (hc : lkErr L = 0) : Calls Tryz.prog 37 #[.agg #[strV L.name, .slice A n c, .slice B p d, .slice C q e]] w (fun e' w' => e' = .returned (.tuple #[strV (outText L), errV (outErr L)]) ∧ Below w.heap.size w w') := by
  have hk := lkErr_ok hc
  have hln := h.bodies.1
  have hlj := h.joints.1
  have hld := h.drivers.1
  have hnb := hk.nb
  have hnj := hk.nj
  have hnd := hk.nd
  have hb0 := hk.b0
  have hnc := h.bodies.2.1
  have hpc := h.joints.2.1
  have hqc := h.drivers.2.1
  have hnm : L.name.length ≤ 24 := hk.name
  have hsn := size_v L.name
  rw [hln] at hnb hb0
  rw [hlj] at hnj
  rw [hld] at hnd
  have hfb := flat_bound lineText 30000 L.bodies (h.bodies.lineLen hk.body)
  have hfj := flat_bound (jointText L.bodies) 200 L.joints fun j hj => jointText_len hk.body (hk.joint j hj).1
  have hfd := flat_bound (driverText L.bodies) 60 L.drivers fun d hd => driverText_len hk.body (hk.driver d hd).1
  rw [hln] at hfb
  rw [hlj] at hfj
  rw [hld] at hfd
  obtain ⟨h1, eh1⟩ : ∃ t, [108, 105, 110, 107, 97, 103, 101, 32] ++ L.name = t := ⟨_, rfl⟩
  have ah1 := app_v ([108, 105, 110, 107, 97, 103, 101, 32]) (L.name)
  rw [eh1] at ah1
  have lh1 : h1.length = 8 + L.name.length := by rw [← eh1, List.length_append]; try simp
  have kh1 : (9223372036854775807 < 8 + L.name.length) = False := eq_false (by omega)
  have zh1 := size_v h1
  obtain ⟨h2, eh2⟩ : ∃ t, h1 ++ [59, 10] = t := ⟨_, rfl⟩
  have ah2 := app_v (h1) ([59, 10])
  rw [eh2] at ah2
  have lh2 : h2.length = h1.length + 2 := by rw [← eh2, List.length_append]; try simp
  have kh2 : (9223372036854775807 < h1.length + 2) = False := eq_false (by omega)
  have zh2 := size_v h2
  have hl2 : h2.length ≤ 34 := by omega
  obtain ⟨S1, hS1⟩ : ∃ S, h2 ++ L.bodies.flatMap lineText = S := ⟨_, rfl⟩
  obtain ⟨S2, hS2⟩ : ∃ S, S1 ++ L.joints.flatMap (jointText L.bodies) = S := ⟨_, rfl⟩
  obtain ⟨S3, hS3⟩ : ∃ S, S2 ++ L.drivers.flatMap (driverText L.bodies) = S := ⟨_, rfl⟩
  have hlS1 : S1.length ≤ 34 + 30000 * n := by rw [← hS1, List.length_append]; omega
  have hlS2 : S2.length ≤ 34 + 30000 * n + 200 * p := by rw [← hS2, List.length_append]; omega
  have hlS3 : S3.length ≤ 34 + 30000 * n + 200 * p + 60 * q := by rw [← hS3, List.length_append]; omega
  have hT3 : lkText L = S3 := by
    rw [← hS3, ← hS2, ← hS1, ← eh2, ← eh1]
    unfold lkText headText
    simp
  have H := Lib.hid h
  have HK := Lib.hid hk
  have HC := Lib.hid hc
  have HTab := Lib.hid htab
  have HS1 := Lib.hid hS1
  have HS2 := Lib.hid hS2
  have HS3 := Lib.hid hS3
  have HT3 := Lib.hid hT3
  have HFB := Lib.hid hfb
  have HFJ := Lib.hid hfj
  have HFD := Lib.hid hfd
  have HLB := Lib.hid hln
  have HLJ := Lib.hid hlj
  have HLD := Lib.hid hld
  have HL1 := Lib.hid hlS1
  have HL2 := Lib.hid hlS2
  have HL3 := Lib.hid hlS3
  clear h hk hc htab hS1 hS2 hS3 hT3 hfb hfj hfd hln hlj hld eh1 eh2 lh1 lh2 hlS1 hlS2 hlS3
  go_enter Tryz.func37, Tryz.ntmps37
  go_wp2_with fail
  have q0 : Below w.heap.size w (w.alloc (.cells #[strV L.name, .slice A n c, .slice B p d, .slice C q e] 36)) := (brefl w).alloc (Nat.le_refl _) _
  have x0 : Blk (w.alloc (.cells #[strV L.name, .slice A n c, .slice B p d, .slice C q e] 36)) w.heap.size 36 #[strV L.name, .slice A n c, .slice B p d, .slice C q e] := blkAt _ _ _ rfl
  (with_reducible refine (m_check _ A n c B p d C q e L 40 (H.out.belw q0) (by decide) (by decide) 0 HC.out).mono ?_); rintro e' w1 ⟨rfl, hb1⟩
  rw [show errV 0 = .nilIface from if_pos rfl]
  have q1 := q0.trans (hb1.mono q0.size)
  have x1 := x0.below hb1 x0.lt
  have hlw1 : w.heap.size < w1.heap.size := x1.lt
  have cx0 := x1.cell 0
  clear hb1 q0 x0
  go_wp2_with fail
  clear cx0
  have B1 : Bu w1.heap.size w1.heap.size (w1.alloc (.cells #[.pointer none, .slice none 0 0] 89)) [] := Bu.new
  have qa : Below w1.heap.size w1 (w1.alloc (.cells #[.pointer none, .slice none 0 0] 89)) := (brefl w1).alloc (Nat.le_refl _) _
  have xa := x1.below qa x1.lt
  (with_reducible refine (bu_write _ _ _ _ h2 B1 (by simp only [List.length_nil]; omega)).mono ?_); rintro e' w2 ⟨rfl, B2, q2, _⟩
  rw [List.nil_append] at B2
  have q2 := qa.trans q2
  have x2 := x1.below q2 x1.lt
  have bw2 := q1.trans (q2.mono q1.size)
  have HB2 := Lib.hid B2
  have cx1 := x2.cell 1
  clear qa xa B1 B2 q1 x1
  go_wp2_with fail
  clear cx1
  go_loopw [26] (fun iv wr => ∃ i : Nat, iv = .int .i64 (i : Nat) ∧ i ≤ n ∧ Hid (Bu w1.heap.size w1.heap.size wr (h2 ++ (L.bodies.take i).flatMap lineText)) ∧ Below w1.heap.size w2 wr) (fun iv _ => n - (intOf iv).toNat)
  case atStart => exact ⟨0, rfl, Nat.zero_le _, by simpa using HB2, Below.refl _ _⟩
  case round =>
    clear HB2
    obtain ⟨i, rfl, hi, HB, hb⟩ := hrel
    rename World => wa
    have xa := x2.below hb hlw1
    have bwa := bw2.trans (hb.mono (Nat.le_of_lt hlw1))
    rcases Nat.lt_or_ge i n with hlt | hge
    · have hi1 : ((i : Int) < (n : Int)) = True := by simp; omega
      obtain ⟨g, o, b, e1, hg, _, hbi, hBd⟩ := (H.out.bodies.bd bwa).at_ hlt
      subst e1
      have hok := HK.out.body b (List.mem_of_getElem? hbi)
      have hms := (H.out.bodies.bd bwa).bodyShort HK.out.body b (List.mem_of_getElem? hbi)
      obtain ⟨A', n', c', d0, d1, hM, _⟩ := hBd
      have hfs := flat_step lineText hbi
      have hfl2 := flat_len lineText L.bodies (i + 1)
      rw [hfs, List.length_append] at hfl2
      obtain ⟨T, hT⟩ : ∃ T, bodyText b = T := ⟨_, rfl⟩
      obtain ⟨T1, hT1⟩ : ∃ t, T ++ [10] = t := ⟨_, rfl⟩
      have hlt1 : lineText b = T1 := by rw [← hT1, ← hT]; rfl
      rw [hlt1] at hfs hfl2
      have aT1 := app_v T [10]
      rw [hT1] at aT1
      have hlT : T1.length = T.length + 1 := by rw [← hT1, List.length_append]; rfl
      have h9 := HFB.out
      have kT1 : (9223372036854775807 < T.length + 1) = False := eq_false (by omega)
      have hsT := size_v T
      have hlw : (h2 ++ (L.bodies.take i).flatMap lineText).length + T1.length ≤ 140737488355328 := by rw [List.length_append]; omega
      have HW := Lib.hid hlw
      have HFS : Hid (h2 ++ (L.bodies.take (i + 1)).flatMap lineText = h2 ++ (L.bodies.take i).flatMap lineText ++ T1) := Lib.hid (by rw [hfs, List.append_assoc])
      have HT := Lib.hid hT
      have HM := Lib.hid hM
      have HOK := Lib.hid hok
      have hlen9 := hok.2.1
      rw [hM.1] at hlen9
      clear hbi hok hms hM hfs hfl2 hT hT1 hlt1 hlT h9 hlw
      have hga : g < wa.heap.size := hg
      go_wp2_with fail
      have xp : Blk (wa.alloc (.cells #[strV b.name, .slice A' n' c'] 56)) wa.heap.size 56 #[strV b.name, .slice A' n' c'] := blkAt _ _ _ rfl
      have qb : Below wa.heap.size wa (wa.alloc (.cells #[strV b.name, .slice A' n' c'] 56)) := (brefl wa).alloc (Nat.le_refl _) _
      have HBb := Lib.hid (HB.out.belw qb)
      have HTb := Lib.hid ((HTab.out.belw bwa).belw qb)
      have HMb := Lib.hid (HM.out.mk_ qb)
      have hbB : w1.heap.size < wa.heap.size := HB.out.lt
      clear HB HM d0 d1
      generalize (wa.alloc (.cells #[strV b.name, .slice A' n' c'] 56)) = wb at xp qb HBb HTb HMb ⊢
      (with_reducible refine (p_body _ A' n' c' b HMb.out HTb.out (by omega) HOK.out.nm HOK.out.mks T HT.out).mono ?_); rintro e' wc ⟨rfl, qc⟩
      have qc2 := bnext qb qc
      go_wp2_with fail
      (with_reducible refine (bu_write _ _ _ _ T1 (HBb.out.belw qc) HW.out).mono ?_); rintro e' wd ⟨rfl, Bd, qd, _⟩
      have HBd : Hid (Bu w1.heap.size w1.heap.size wd (h2 ++ (L.bodies.take (i + 1)).flatMap lineText)) := Lib.hid (by rw [HFS.out]; exact Bd)
      have bd := (hb.trans (qc2.mono (Nat.le_of_lt hbB))).trans qd
      clear Bd HFS
      go_wp2_with fail
      go_roundw
      case rel => exact ⟨i + 1, by go_num, by omega, HBd, bd⟩
      case measure => simp [intOf]; omega
    · have hi1 : ((i : Int) < (n : Int)) = False := by simp; omega
      have hin : L.bodies.take i = L.bodies := List.take_of_length_le (by rw [HLB.out]; exact hge)
      rw [hin, HS1.out] at HB
      have HB1 := HB
      have cx2 := xa.cell 2
      clear hin HB
      go_wp2_with fail
      clear cx2
      go_loopw [38] (fun iv wr => ∃ i2 : Nat, iv = .int .i64 (i2 : Nat) ∧ i2 ≤ p ∧ Hid (Bu w1.heap.size w1.heap.size wr (S1 ++ (L.joints.take i2).flatMap (jointText L.bodies))) ∧ Below w1.heap.size w2 wr) (fun iv _ => p - (intOf iv).toNat)
      case atStart => exact ⟨0, rfl, Nat.zero_le _, by simpa using HB1, hb⟩
      case round =>
        clear HB1 xa bwa hb
        obtain ⟨i2, rfl, hi2, HB, hb⟩ := hrel
        rename World => wj
        have xa := x2.below hb hlw1
        have bwa := bw2.trans (hb.mono (Nat.le_of_lt hlw1))
        rcases Nat.lt_or_ge i2 p with hlt2 | hge2
        · have hi3 : ((i2 : Int) < (p : Int)) = True := by simp; omega
          obtain ⟨g, o, j, e1, hg, _, hbi, hJt⟩ := (H.out.joints.jt bwa).at_ hlt2
          subst e1
          have hok := HK.out.joint j (List.mem_of_getElem? hbi)
          obtain ⟨hjn, ja, jb, jp, jo, x, y, m1, m2, ea, eb, ep, eo, hx, hy, hm1, hm2, hkd⟩ := hok
          obtain ⟨d0, d1, d2, d3, d4, d5, d6, _⟩ := hJt
          obtain ⟨F1, hF1⟩ : ∃ F, x.name ++ 46 :: m1.name = F := ⟨_, rfl⟩
          obtain ⟨F2, hF2⟩ : ∃ F, y.name ++ 46 :: m2.name = F := ⟨_, rfl⟩
          have hbx := HK.out.body x (List.mem_of_getElem? hx)
          have hby := HK.out.body y (List.mem_of_getElem? hy)
          have HJ1 := Lib.hid (And.intro hx (And.intro hm1 (And.intro hbx.nm (And.intro (hbx.mks m1 (List.mem_of_getElem? hm1)) hF1))))
          have HJ2 := Lib.hid (And.intro hy (And.intro hm2 (And.intro hby.nm (And.intro (hby.mks m2 (List.mem_of_getElem? hm2)) hF2))))
          have hf1 : fullT L.bodies j.a j.point = F1 := by rw [ea, ep, fullT_v hx hm1, hF1]
          have hf2 : fullT L.bodies j.b j.on = F2 := by rw [eb, eo, fullT_v hy hm2, hF2]
          have hfs := flat_step (jointText L.bodies) hbi
          have hfl2 := flat_len (jointText L.bodies) L.joints (i2 + 1)
          rw [hfs, List.length_append] at hfl2
          have hjl := jointText_len HK.out.body hjn
          rw [ea] at d2
          rw [ep] at d3
          rw [eb] at d4
          rw [eo] at d5
          have hsj := size_v j.name
          have hga : g < wj.heap.size := hg
          have h9 := HFJ.out
          have h8 := HL1.out
          have hlw : (S1 ++ (L.joints.take i2).flatMap (jointText L.bodies)).length + (jointText L.bodies j).length ≤ 140737488355328 := by rw [List.length_append]; omega
          have HW := Lib.hid hlw
          have HFS : Hid (S1 ++ (L.joints.take (i2 + 1)).flatMap (jointText L.bodies) = S1 ++ (L.joints.take i2).flatMap (jointText L.bodies) ++ jointText L.bodies j) := Lib.hid (by rw [hfs, List.append_assoc])
          have HBI := Lib.hid (And.intro hf1 (And.intro hf2 hjl))
          have HKD := Lib.hid hkd
          have HBY := Lib.hid (And.intro hy hby)
          have HEB := Lib.hid eb
          clear hF1 hF2 hx hy hm1 hm2 hbx hby hf1 hf2 hfs hfl2 hjl ea ep eb eo hbi h9 h8 hlw hkd
          go_wp2_with fail
          have xp : Blk (wj.alloc (.cells #[strV j.name, .int .i64 j.kind, .int .i64 (ja : Nat), .int .i64 (jp : Nat), .int .i64 (jb : Nat), .int .i64 (jo : Nat), .int .i64 j.to_] 60)) wj.heap.size 60 #[strV j.name, .int .i64 j.kind, .int .i64 (ja : Nat), .int .i64 (jp : Nat), .int .i64 (jb : Nat), .int .i64 (jo : Nat), .int .i64 j.to_] := blkAt _ _ _ rfl
          have qb : Below wj.heap.size wj (wj.alloc (.cells #[strV j.name, .int .i64 j.kind, .int .i64 (ja : Nat), .int .i64 (jp : Nat), .int .i64 (jb : Nat), .int .i64 (jo : Nat), .int .i64 j.to_] 60)) := (brefl wj).alloc (Nat.le_refl _) _
          have HBb := Lib.hid (HB.out.belw qb)
          have HTb := Lib.hid ((HTab.out.belw bwa).belw qb)
          have HBod := Lib.hid ((H.out.bodies.bd bwa).bd qb)
          have hbB : w1.heap.size < wj.heap.size := HB.out.lt
          have xb := xa.below qb xa.lt
          have bwb := hb.trans (qb.mono (Nat.le_of_lt hbB))
          clear HB d0 d1 d2 d3 d4 d5 d6 xa
          generalize (wj.alloc (.cells #[strV j.name, .int .i64 j.kind, .int .i64 (ja : Nat), .int .i64 (jp : Nat), .int .i64 (jb : Nat), .int .i64 (jo : Nat), .int .i64 j.to_] 60)) = wb at xp qb HBb HTb HBod xb bwb ⊢
          have hlb : wj.heap.size < wb.heap.size := xp.lt
          have hlb2 : w.heap.size < wb.heap.size := xb.lt
          obtain ⟨cp0, cp1, cp2, cp3, cp4, cp5, cp6⟩ := xp.c7
          obtain ⟨cb0, cb1, cb2, cb3⟩ := xb.c4
          go_region_held3 (fun w' => Sees wb.heap.size wb w') (first | with_reducible exact Sees.of (Nat.le_refl _) (by assumption) | with_reducible exact Sees.of (Nat.le_refl _) (brefl _).drew | with_reducible exact Sees.al (by assumption) _ | exact Sees.of (Nat.le_refl _) (below_drewN (brefl _) 1) | exact Sees.of (Nat.le_refl _) (below_drewN (by assumption) _))
            (first
              | (go_at_call 81; (with_reducible refine (p_full _ _ _ _ _ _ _ _ _ _ _ L.bodies 40 ?_ ja jp x m1 HJ1.out.1 HJ1.out.2.1 HJ1.out.2.2.1 HJ1.out.2.2.2.1 F1 HJ1.out.2.2.2.2).mono ?_); (exact HBod.out.bd (by first | exact qwf2 | exact brefl _ | exact (brefl wb).drew | exact below_drewN (brefl wb) _)); rintro e' wf1 ⟨rfl, hwf1⟩; have qwf1 : Below wb.heap.size wb wf1 := (by first | exact bnext qwf2 hwf1 | exact bnext (brefl wb) hwf1 | exact bnext (below_drewN (brefl wb) _) hwf1))
              | (go_at_call 81; (with_reducible refine (p_full _ _ _ _ _ _ _ _ _ _ _ L.bodies 40 ?_ jb jo y m2 HJ2.out.1 HJ2.out.2.1 HJ2.out.2.2.1 HJ2.out.2.2.2.1 F2 HJ2.out.2.2.2.2).mono ?_); (exact HBod.out.bd (by first | exact qwf1 | exact brefl _ | exact (brefl wb).drew | exact below_drewN (brefl wb) _)); rintro e' wf2 ⟨rfl, hwf2⟩; have qwf2 : Below wb.heap.size wb wf2 := (by first | exact bnext qwf1 hwf2 | exact bnext (brefl wb) hwf2 | exact bnext (below_drewN (brefl wb) _) hwf2)))
          all_goals
            rename_i hHeld
            clear hHeld hwf1 hwf2
            first
              | clear qwf1 wf1
              | clear qwf2 wf2
            rename World => wl
            rename Below wb.heap.size wb wl => ql
            have xs : Blk (wl.alloc (.cells #[.string ⟨#[112, 105, 110]⟩, strV j.name, strV F1, strV F2] 9)) wl.heap.size 9 (strCs [[112, 105, 110], j.name, F1, F2]).toArray := blkAt _ _ _ rfl
            have qs : Below wb.heap.size wb (wl.alloc (.cells #[.string ⟨#[112, 105, 110]⟩, strV j.name, strV F1, strV F2] 9)) := ql.alloc ql.size _
            have hgl : wb.heap.size ≤ wl.heap.size := ql.size
            clear cp0 cp1 cp2 cp3 cp4 cp5 cp6 cb0 cb1 cb2 cb3 ql
            generalize (wl.alloc (.cells #[.string ⟨#[112, 105, 110]⟩, strV j.name, strV F1, strV F2] 9)) = ws at xs qs ⊢
            have hls : wl.heap.size < ws.heap.size := xs.lt
            have xp2 := xp.below qs xp.lt
            have xb2 := xb.below qs xb.lt
            have bws := bwb.trans (qs.mono (by omega))
            have cp1 := xp2.cell 1
            rcases HKD.out with ⟨hk0, _⟩ | ⟨hk1, jt, m3, et, hm3⟩
            · have e10 : (j.kind == 1) = false := by rw [hk0]; rfl
              have hw0 : jointWords L.bodies j = [[112, 105, 110], j.name, F1, F2] := by
                unfold jointWords
                rw [if_neg (by omega), HBI.out.1, HBI.out.2.1]
              obtain ⟨J, hJ⟩ : ∃ J, joinT [[112, 105, 110], j.name, F1, F2] = J := ⟨_, rfl⟩
              obtain ⟨T, hT⟩ : ∃ T, J ++ [59, 10] = T := ⟨_, rfl⟩
              have hTT : jointText L.bodies j = T := by unfold jointText; rw [hw0, hJ, hT]
              have aT := app_v J [59, 10]
              rw [hT] at aT
              have hlT : T.length = J.length + 2 := by rw [← hT, List.length_append]; rfl
              have hl200 := HBI.out.2.2
              rw [hTT] at hl200
              have kT : (9223372036854775807 < J.length + 2) = False := eq_false (by omega)
              have hsJ := size_v J
              have hWT := HW.out
              rw [hTT] at hWT
              have HWT := Lib.hid hWT
              have HTT := Lib.hid hTT
              have HJ := Lib.hid hJ
              clear hk0 hw0 hT hTT hWT
              go_wp2_with fail
              (with_reducible refine (join18_v ws wl.heap.size 4 4 _ rfl xs.strs hls (by decide) (by decide) (by rw [HJ.out]; omega)).mono ?_); rintro e' wt ⟨rfl, qt⟩
              rw [HJ.out]
              go_wp2_with fail
              (with_reducible refine (bu_write _ _ _ _ T ((HBb.out.belw qs).belw qt) HWT.out).mono ?_); rintro e' wu ⟨rfl, Bw, qu, _⟩
              have HBu : Hid (Bu w1.heap.size w1.heap.size wu (S1 ++ (L.joints.take (i2 + 1)).flatMap (jointText L.bodies))) := Lib.hid (by rw [HFS.out, HTT.out]; exact Bw)
              have bu := (bws.trans (qt.mono (by omega))).trans qu
              clear Bw
              go_wp2_with fail
              go_roundw
              case rel => exact ⟨i2 + 1, by go_num, by omega, HBu, bu⟩
              case measure => simp [intOf]; omega
            · have e10 : (j.kind == 1) = true := by rw [hk1]; rfl
              obtain ⟨F3, hF3⟩ : ∃ F, y.name ++ 46 :: m3.name = F := ⟨_, rfl⟩
              have hby := HBY.out.2
              have HJ3 := Lib.hid (And.intro HBY.out.1 (And.intro hm3 (And.intro hby.nm (And.intro (hby.mks m3 (List.mem_of_getElem? hm3)) hF3))))
              have hw0 : jointWords L.bodies j = [[115, 108, 105, 100, 101], j.name, F1, F2, F3] := by
                unfold jointWords
                have hf3 := fullT_v HBY.out.1 hm3
                rw [if_pos hk1, HBI.out.1, HBI.out.2.1, HEB.out, et, hf3, hF3]
              have hto : ((jt : Nat) : Int) = j.to_ := et.symm
              obtain ⟨J, hJ⟩ : ∃ J, joinT [[115, 108, 105, 100, 101], j.name, F1, F2, F3] = J := ⟨_, rfl⟩
              obtain ⟨T, hT⟩ : ∃ T, J ++ [59, 10] = T := ⟨_, rfl⟩
              have hTT : jointText L.bodies j = T := by unfold jointText; rw [hw0, hJ, hT]
              have aT := app_v J [59, 10]
              rw [hT] at aT
              have hlT : T.length = J.length + 2 := by rw [← hT, List.length_append]; rfl
              have hl200 := HBI.out.2.2
              rw [hTT] at hl200
              have kT : (9223372036854775807 < J.length + 2) = False := eq_false (by omega)
              have hsJ := size_v J
              have hWT := HW.out
              rw [hTT] at hWT
              have HWT := Lib.hid hWT
              have HTT := Lib.hid hTT
              have HJ := Lib.hid hJ
              rw [et] at xp2 xp
              obtain ⟨i0, hi0, hz0, hz1, hz2⟩ := info_parts info_str
              have HI := Lib.hid (And.intro hi0 (And.intro hz0 (And.intro hz1 hz2)))
              clear hk1 hi0 hz0 hz1 hz2 et hto hm3 hF3 hby hw0 hT hTT hWT
              have xs0 := xs.cell 0
              have xf0 := xs.frozen 0
              have xs1 := xs.cell 1
              have cp4 := xp2.cell 4
              have cp6 := xp2.cell 6
              obtain ⟨cb0, cb1, cb2, cb3⟩ := xb2.c4
              have hne1 : ¬ w.heap.size = wl.heap.size := by omega
              have hne2 : ¬ wj.heap.size = wl.heap.size := by omega
              have xs5 : Blk (ws.setCell ⟨wl.heap.size, 0, none⟩ (strV [115, 108, 105, 100, 101])) wl.heap.size 9 (strCs [[115, 108, 105, 100, 101], j.name, F1, F2]).toArray := xs.set_ 0 _
              have qs5 : Below wb.heap.size wb (ws.setCell ⟨wl.heap.size, 0, none⟩ (strV [115, 108, 105, 100, 101])) := qs.setCell (p := ⟨wl.heap.size, 0, none⟩) hgl _
              clear xs
              go_wp2_with fail
              clear cb0 cb1 cb2 cb3 cp4 cp6 cp1 xs0 xs1 xf0
              generalize (ws.setCell ⟨wl.heap.size, 0, none⟩ (strV [115, 108, 105, 100, 101])) = wv at xs5 qs5 ⊢
              (with_reducible refine (p_full _ _ _ _ _ _ _ _ _ _ _ L.bodies 40 (HBod.out.bd qs5) jb jt y m3 HJ3.out.1 HJ3.out.2.1 HJ3.out.2.2.1 HJ3.out.2.2.2.1 F3 HJ3.out.2.2.2.2).mono ?_); rintro e' wt ⟨rfl, qt⟩
              have xs6 := xs5.below qt xs5.lt
              have q6 := bnext qs5 qt
              have HO := Lib.hid ((xs6.owns (n := 4) hgl rfl (by decide)).alloc (.cells #[strV F3] 9))
              go_wp2_with (at_builtin; refine wpList_append_lies _ rfl _ _ _ rfl wb.heap.size 9 i0 (.string ⟨#[]⟩) 1 16 Tryz.underlying49 HI.out.1 HI.out.2.1 HI.out.2.2.1 HI.out.2.2.2 rfl (by omega) (.slice (some ⟨wl.heap.size, 0, none⟩) 4 4) 4 (strCs [[115, 108, 105, 100, 101], j.name, F1, F2]) rfl HO.out ⟨wt.heap.size, 0, none⟩ 1 1 [_] rfl rfl (World.news_of_block (heap_alloc_new wt _)) (by simp [Value.oneCell']) (by omega) (by unfold maxLen; omega) (by omega) (by have := q6.size; simp; omega) (wt.heap.size + 1) (by simp) ?_; intro gx cap w9 hown1 hgrow hat hlt1)
              have ho5 := owns_strs (l := [[115, 108, 105, 100, 101], j.name, F1, F2, F3]) hown1
              have HO5 := Lib.hid ho5
              have b9 : Below wb.heap.size wb w9 := (q6.alloc q6.size _).grown hgrow (by have := q6.size; simp; omega) (fun k hk => by cases hk; exact hgl)
              clear ho5 hown1 hgrow hat
              (with_reducible refine (join18_v w9 gx cap 5 _ rfl HO5.out.2 hlt1 (by decide) HO5.out.1 (by rw [HJ.out]; omega)).mono ?_); rintro e' wy ⟨rfl, qy⟩
              rw [HJ.out]
              have q9 := bnext b9 qy
              go_wp2_with fail
              (with_reducible refine (bu_write _ _ _ _ T (HBb.out.belw q9) HWT.out).mono ?_); rintro e' wu ⟨rfl, Bw, qu, _⟩
              have HBu : Hid (Bu w1.heap.size w1.heap.size wu (S1 ++ (L.joints.take (i2 + 1)).flatMap (jointText L.bodies))) := Lib.hid (by rw [HFS.out, HTT.out]; exact Bw)
              have bu := (bwb.trans (q9.mono (by omega))).trans qu
              clear Bw
              go_wp2_with fail
              go_roundw
              case rel => exact ⟨i2 + 1, by go_num, by omega, HBu, bu⟩
              case measure => simp [intOf]; omega
        · have hi3 : ((i2 : Int) < (p : Int)) = False := by simp; omega
          have hin : L.joints.take i2 = L.joints := List.take_of_length_le (by rw [HLJ.out]; exact hge2)
          rw [hin, HS2.out] at HB
          have HB2 := HB
          have cx3 := xa.cell 3
          clear hin HB
          go_wp2_with fail
          clear cx3
          go_loopw [79] (fun iv wr => ∃ i3 : Nat, iv = .int .i64 (i3 : Nat) ∧ i3 ≤ q ∧ Hid (Bu w1.heap.size w1.heap.size wr (S2 ++ (L.drivers.take i3).flatMap (driverText L.bodies))) ∧ Below w1.heap.size w2 wr) (fun iv _ => q - (intOf iv).toNat)
          case atStart => exact ⟨0, rfl, Nat.zero_le _, by simpa using HB2, hb⟩
          case round =>
            clear HB2 xa bwa hb
            obtain ⟨i3, rfl, hi3', HB, hb⟩ := hrel
            rename World => wk
            have xa := x2.below hb hlw1
            have bwa := bw2.trans (hb.mono (Nat.le_of_lt hlw1))
            rcases Nat.lt_or_ge i3 q with hlt3 | hge3
            · have hi4 : ((i3 : Int) < (q : Int)) = True := by simp; omega
              obtain ⟨g, o, dv, e1, hg, _, hbi, hDr⟩ := (H.out.drivers.dr bwa).at_ hlt3
              subst e1
              obtain ⟨hdn, di, y, ei, hy⟩ := HK.out.driver dv (List.mem_of_getElem? hbi)
              have hil : di < n := by rw [← HLB.out]; exact (List.getElem?_eq_some_iff.1 hy).1
              obtain ⟨gb, ob, y', e1, hgb, _, hy', hBy⟩ := H.out.bodies.at_ hil
              rw [hy] at hy'
              injection hy' with hy'
              subst hy' e1
              obtain ⟨A', n', c', k0, k1, hM, _⟩ := hBy
              have hby := HK.out.body y (List.mem_of_getElem? hy)
              have hyn := hby.nm
              obtain ⟨d0, d1, _⟩ := hDr
              rw [ei] at d1
              have hsd := size_v dv.name
              have hsy := size_v y.name
              obtain ⟨g1, eg1⟩ : ∃ t, [100, 114, 105, 118, 101, 114, 32] ++ dv.name = t := ⟨_, rfl⟩
              have ag1 := app_v ([100, 114, 105, 118, 101, 114, 32]) (dv.name)
              rw [eg1] at ag1
              have lg1 : g1.length = 7 + dv.name.length := by rw [← eg1, List.length_append]; try simp
              have kg1 : (9223372036854775807 < 7 + dv.name.length) = False := eq_false (by omega)
              have zg1 := size_v g1
              obtain ⟨g2, eg2⟩ : ∃ t, g1 ++ [32] = t := ⟨_, rfl⟩
              have ag2 := app_v (g1) ([32])
              rw [eg2] at ag2
              have lg2 : g2.length = g1.length + 1 := by rw [← eg2, List.length_append]; try simp
              have kg2 : (9223372036854775807 < g1.length + 1) = False := eq_false (by omega)
              have zg2 := size_v g2
              obtain ⟨g3, eg3⟩ : ∃ t, g2 ++ y.name = t := ⟨_, rfl⟩
              have ag3 := app_v (g2) (y.name)
              rw [eg3] at ag3
              have lg3 : g3.length = g2.length + y.name.length := by rw [← eg3, List.length_append]; try simp
              have kg3 : (9223372036854775807 < g2.length + y.name.length) = False := eq_false (by omega)
              have zg3 := size_v g3
              obtain ⟨g4, eg4⟩ : ∃ t, g3 ++ [59, 10] = t := ⟨_, rfl⟩
              have ag4 := app_v (g3) ([59, 10])
              rw [eg4] at ag4
              have lg4 : g4.length = g3.length + 2 := by rw [← eg4, List.length_append]; try simp
              have kg4 : (9223372036854775807 < g3.length + 2) = False := eq_false (by omega)
              have zg4 := size_v g4
              have hdt : driverText L.bodies dv = g4 := by
                rw [← eg4, ← eg3, ← eg2, ← eg1]
                unfold driverText
                rw [ei, nameT_v hy]
              have hfs := flat_step (driverText L.bodies) hbi
              have hfl2 := flat_len (driverText L.bodies) L.drivers (i3 + 1)
              rw [hfs, List.length_append, hdt] at hfl2
              rw [hdt] at hfs
              have h9 := HFD.out
              have h8 := HL2.out
              have hlw : (S2 ++ (L.drivers.take i3).flatMap (driverText L.bodies)).length + g4.length ≤ 140737488355328 := by rw [List.length_append]; omega
              have HW := Lib.hid hlw
              have HFS : Hid (S2 ++ (L.drivers.take (i3 + 1)).flatMap (driverText L.bodies) = S2 ++ (L.drivers.take i3).flatMap (driverText L.bodies) ++ g4) := Lib.hid (by rw [hfs, List.append_assoc])
              have k0 := cell_belw k0 bwa
              have hga : g < wk.heap.size := hg
              clear hM k1 hby hy ei hdt hfs hfl2 h9 h8 hlw hbi lg1 lg2 lg3 lg4 eg1 eg2 eg3 eg4
              go_wp2_with fail
              have xp : Blk (wk.alloc (.cells #[strV dv.name, .int .i64 (di : Nat)] 58)) wk.heap.size 58 #[strV dv.name, .int .i64 (di : Nat)] := blkAt _ _ _ rfl
              have qb : Below wk.heap.size wk (wk.alloc (.cells #[strV dv.name, .int .i64 (di : Nat)] 58)) := (brefl wk).alloc (Nat.le_refl _) _
              have HBb := Lib.hid (HB.out.belw qb)
              have hbB : w1.heap.size < wk.heap.size := HB.out.lt
              have xb := xa.below qb xa.lt
              have bwb := hb.trans (qb.mono (Nat.le_of_lt hbB))
              have k0 := cell_belw k0 qb
              clear HB d0 d1 xa
              generalize (wk.alloc (.cells #[strV dv.name, .int .i64 (di : Nat)] 58)) = wb at xp qb HBb xb bwb k0 ⊢
              have hlb : wk.heap.size < wb.heap.size := xp.lt
              have hlb2 : w.heap.size < wb.heap.size := xb.lt
              obtain ⟨cp0, cp1⟩ := xp.c2
              have cb1 := xb.cell 1
              have f1 : ((di : Int) < (n : Int)) := by omega
              have hSb : SD wk.heap.size w.heap.size gb (ob + di * 2) (strV dv.name) (.int .i64 (di : Nat)) (.slice (some ⟨gb, ob, none⟩) n c) (strV y.name) wb := ⟨cp0, cp1, cb1, k0⟩
              go_region_held3 (SD wk.heap.size w.heap.size gb (ob + di * 2) (strV dv.name) (.int .i64 (di : Nat)) (.slice (some ⟨gb, ob, none⟩) n c) (strV y.name)) (first | assumption | exact hSb)
                (first
                  | (go_at_call 40; (with_reducible refine (bu_write _ _ _ _ g4 (HBb.out.belw (by first | exact (brefl wb).drew | exact below_drewN (brefl wb) _)) HW.out).mono ?_); rintro e' wu ⟨rfl, Bw, qu, ou⟩; have xu := ou wk.heap.size 58 _ (by omega) (by decide) xp; have qu : Below w1.heap.size wb wu := (by first | exact (Below.refl _ wb).drew.trans qu | exact (below_drewN (Below.refl _ wb) _).trans qu); have hSu : SD wk.heap.size w.heap.size gb (ob + di * 2) (strV dv.name) (.int .i64 (di : Nat)) (.slice (some ⟨gb, ob, none⟩) n c) (strV y.name) wu := ⟨xu.cell 0, xu.cell 1, (xb.below qu hlw1).cell 1, (qu.cell (p := ⟨gb, ob + di * 2, none⟩) (Nat.lt_trans hgb hlw1)).trans k0⟩))
              have HBu : Hid (Bu w1.heap.size w1.heap.size wu (S2 ++ (L.drivers.take (i3 + 1)).flatMap (driverText L.bodies))) := Lib.hid (by rw [HFS.out]; exact Bw)
              have bu := bwb.trans qu
              clear Bw cp0 cp1 cb1 k0 hSb hSu
              go_wp2_with fail
              go_roundw
              case rel => exact ⟨i3 + 1, by go_num, by omega, HBu, bu⟩
              case measure => simp [intOf]; omega
            · have hi4 : ((i3 : Int) < (q : Int)) = False := by simp; omega
              have hin : L.drivers.take i3 = L.drivers := List.take_of_length_le (by rw [HLD.out]; exact hge3)
              rw [hin, HS3.out] at HB
              clear hin
              go_wp2_with fail
              (with_reducible refine (bu_len _ _ _ S3 HB.out).mono ?_); rintro e' w9 ⟨rfl, rfl⟩
              by_cases h65 : 65536 < S3.length
              · have f65 : ((65536 : Int) < (S3.length : Int)) = True := eq_true (by omega)
                have hoE : outErr L = 4 := by unfold outErr; rw [if_neg (by rw [HC.out]; decide), if_pos (Or.inr (by rw [HT3.out]; exact h65))]
                have hoT : outText L = [] := by unfold outText; rw [if_neg (by rw [hoE]; decide)]
                have HOE := Lib.hid (And.intro hoE hoT)
                clear hoE hoT
                go_wp2_with fail
                go_ret2
                exact ⟨by rw [HOE.out.1, HOE.out.2]; rfl, bwa⟩
              · have f65 : ((65536 : Int) < (S3.length : Int)) = False := eq_false (by omega)
                have H65 := Lib.hid h65
                obtain ⟨v, hv⟩ : ∃ v, longL L.bodies = v := ⟨_, rfl⟩
                have HV := Lib.hid hv
                obtain ⟨cb0, cb1, cb2, cb3⟩ := xa.c4
                clear h65 hv
                go_wp2_with fail
                (with_reducible refine (p_long _ A n c B p d C q e L.name L.bodies (H.out.bodies.bd bwa) (HTab.out.belw bwa) (by omega) (fun b hb => by have := (HK.out.body b hb).np; omega) v HV.out).mono ?_); rintro e' wz ⟨rfl, qz⟩
                have bz := bwa.trans (qz.mono bwa.size)
                clear cb0 cb1 cb2 cb3
                cases v
                · have hoE : outErr L = 0 := by
                    unfold outErr
                    rw [if_neg (by rw [HC.out]; decide), if_neg (by rw [HT3.out, HV.out]; intro hh; rcases hh with hh | hh; exact absurd hh (by decide); exact H65.out hh)]
                  have hoT : outText L = S3 := by unfold outText; rw [if_pos hoE, HT3.out]
                  have HOE := Lib.hid (And.intro hoE hoT)
                  have HBz := Lib.hid (HB.out.belw qz)
                  clear hoE hoT
                  go_wp2_with fail
                  (with_reducible refine (bu_str _ _ _ _ HBz.out).mono ?_); rintro e' wy ⟨rfl, qy⟩
                  have by_ := bz.trans (qy.mono (Nat.le_of_lt hlw1))
                  go_wp2_with fail
                  go_ret2
                  exact ⟨by rw [HOE.out.1, HOE.out.2]; rfl, by_⟩
                · have hoE : outErr L = 4 := by unfold outErr; rw [if_neg (by rw [HC.out]; decide), if_pos (Or.inl HV.out)]
                  have hoT : outText L = [] := by unfold outText; rw [if_neg (by rw [hoE]; decide)]
                  have HOE := Lib.hid (And.intro hoE hoT)
                  clear hoE hoT
                  go_wp2_with fail
                  go_ret2
                  exact ⟨by rw [HOE.out.1, HOE.out.2]; rfl, bz⟩
end Go.Proofs.YtoiijifnfdgfpaaGreatDoor

/- Walks: a linkage too large for a statement. -/
namespace Go.Proofs.YtoiijifnfdgfpaaGreatDoor
open Go Go.RowKit Bn
attribute [local go_sem ↓] Go.wp_at_zero Go.wp_at_succ
def lgM (m : MarkL) : Bool := decide (40 < m.x.num.length + m.x.den.length + m.y.num.length + m.y.den.length)
def lgB (b : BodyL) : Bool := decide (40 < b.pts.length) || b.pts.any lgM
def lgL (L : LinkL) : Bool := decide (40 < L.bodies.length) || decide (60 < L.joints.length) || decide (40 < L.drivers.length) || L.bodies.any lgB
theorem wrap_i64 {u : Int} (h1 : -9223372036854775808 ≤ u) (h2 : u ≤ 9223372036854775807) : IntKind.i64.wrap u = u := by rw [IntKind.wrap_i64]; omega
theorem big47 {n : Nat} (h : n ≤ reachBytes) : n ≤ 140737488355328 := by unfold reachBytes at h; omega
theorem RatAt.words {k : Nat} {w : World} {g o : Nat} {r : RD} (h : RatAt w g o r k) : RdW r := by
  obtain ⟨b, A, n, c, D, m, e, _, _, _, hQ⟩ := h
  exact ⟨hQ.2.1.1, hQ.2.2.1.1⟩
theorem SlS.markW {k : Nat} {w : World} {A : Option Addr} {n c : Nat} {l : List MarkL} (h : SlS (MkAt k) 7 w A n c l) : ∀ m ∈ l, MkW m := by
  intro m hm
  obtain ⟨i, hi, e⟩ := List.getElem_of_mem hm
  obtain ⟨g, o, a, _, _, _, ha, hp⟩ := h.at_ (i := i) (by rw [← h.1]; exact hi)
  rw [List.getElem?_eq_getElem hi] at ha
  injection ha with ha
  rw [← ha, e] at hp
  exact ⟨hp.2.1.words, hp.2.2.1.words⟩
theorem LkS.words {k : Nat} {w : World} {A B C : Option Addr} {n c p d q e : Nat} {L : LinkL} (h : LkS k w A n c B p d C q e L) : LkW L := by
  intro b hb
  obtain ⟨i, hi, e1⟩ := List.getElem_of_mem hb
  obtain ⟨g, o, a, _, _, _, ha, hp⟩ := h.bodies.at_ (i := i) (by rw [← h.bodies.1]; exact hi)
  rw [List.getElem?_eq_getElem hi] at ha
  injection ha with ha
  rw [← ha, e1] at hp
  obtain ⟨A', n', c', _, _, hM, _⟩ := hp
  exact hM.markW
theorem RatAt.small {K k : Nat} {w : World} {g o : Nat} {r : RD} (h : RatAt w g o r K) (h1 : r.num.length ≤ k) (h2 : r.den.length ≤ k) : RatAt w g o r k := by
  obtain ⟨b, A, n, c, D, m, e, c1, c2, c3, hQ⟩ := h
  refine ⟨b, A, n, c, D, m, e, c1, c2, c3, hQ.1, hQ.2.1, hQ.2.2.1, ?_, ?_⟩
  · rw [hQ.2.1.2.1]; exact h1
  · rw [hQ.2.2.1.2.1]; exact h2
theorem lgM_small {m : MarkL} (h : lgM m = false) : m.x.num.length ≤ 40 ∧ m.x.den.length ≤ 40 ∧ m.y.num.length ≤ 40 ∧ m.y.den.length ≤ 40 := by
  unfold lgM at h
  simp at h
  omega
theorem SlS.mono_ {α : Type} {P P' : World → Nat → Nat → α → Prop} {s : Nat} {w : World} {A : Option Addr} {n c : Nat} {l : List α} (h : SlS P s w A n c l) (hP : ∀ g o a, a ∈ l → P w g o a → P' w g o a) : SlS P' s w A n c l := by
  refine ⟨h.1, h.2.1, fun hn => ?_⟩
  obtain ⟨g, o, e, hg, h3⟩ := h.2.2 hn
  exact ⟨g, o, e, hg, fun i a ha => hP _ _ _ (List.mem_of_getElem? ha) (h3 i a ha)⟩
theorem SlS.marks40 {K : Nat} {w : World} {A : Option Addr} {n c : Nat} {l : List MarkL} (h : SlS (MkAt K) 7 w A n c l) (hl : l.any lgM = false) : SlS (MkAt 40) 7 w A n c l :=
  h.mono_ fun g o m hm hp => by
    have := lgM_small (by simpa using List.any_eq_false.1 hl m hm)
    exact ⟨hp.1, hp.2.1.small this.1 this.2.1, hp.2.2.1.small this.2.2.1 this.2.2.2, hp.2.2.2⟩
theorem LkS.of40 {K : Nat} {w : World} {A B C : Option Addr} {n c p d q e : Nat} {L : LinkL} (h : LkS K w A n c B p d C q e L) (hl : lgL L = false) : LkS 40 w A n c B p d C q e L := by
  unfold lgL at hl
  simp only [Bool.or_eq_false_iff] at hl
  refine ⟨h.name, h.bodies.mono_ fun g o b hb hp => ?_, h.joints, h.drivers⟩
  obtain ⟨A', n', c', c0, c1, hM, hn⟩ := hp
  have h1 : lgB b = false := by simpa using List.any_eq_false.1 hl.2 b hb
  unfold lgB at h1
  rw [Bool.or_eq_false_iff] at h1
  exact ⟨A', n', c', c0, c1, hM.marks40 h1.2, hn⟩
theorem l_large (w : World) (A : Option Addr) (n c : Nat) (B : Option Addr) (p d : Nat) (C : Option Addr) (q e : Nat) (L : LinkL) (h : LkS reachBytes w A n c B p d C q e L) (v : Bool) (hv : lgL L = v) :
  Calls Tryz.prog 32 #[.agg #[strV L.name, .slice A n c, .slice B p d, .slice C q e]] w (RetV w (.bool v)) := by
 have HV := Lib.hid hv
 have HL := Lib.hid (And.intro h.bodies.1 (And.intro h.joints.1 h.drivers.1))
 have hnc := h.bodies.2.1
 have H := Lib.hid h
 clear h hv
 go_enter Tryz.func32, Tryz.ntmps32
 by_cases ha : 40 < n
 ·have fa : ((40 : Int) < (n : Int)) = True := eq_true (by omega)
  have hvt : v = true := by rw [← HV.out]; unfold lgL; rw [HL.out.1, decide_eq_true ha]; rfl
  subst hvt
  go_wp2_with fail
  go_ret
  exact ⟨rfl, (brefl w).alloc (Nat.le_refl _) _⟩
 have fa : ((40 : Int) < (n : Int)) = False := eq_false (by omega)
 by_cases hb : 60 < p
 ·have fb : ((60 : Int) < (p : Int)) = True := eq_true (by omega)
  have hvt : v = true := by rw [← HV.out]; unfold lgL; rw [HL.out.2.1, decide_eq_true hb, Bool.or_true]; rfl
  subst hvt
  go_wp2_with fail
  go_ret
  exact ⟨rfl, (brefl w).alloc (Nat.le_refl _) _⟩
 have fb : ((60 : Int) < (p : Int)) = False := eq_false (by omega)
 by_cases hc : 40 < q
 ·have fc : ((40 : Int) < (q : Int)) = True := eq_true (by omega)
  have hvt : v = true := by rw [← HV.out]; unfold lgL; rw [HL.out.2.2, decide_eq_true hc, Bool.or_true]; rfl
  subst hvt
  go_wp2_with fail
  go_ret
  exact ⟨rfl, (brefl w).alloc (Nat.le_refl _) _⟩
 have fc : ((40 : Int) < (q : Int)) = False := eq_false (by omega)
 have HV2 : Hid (L.bodies.any lgB = v) := Lib.hid (by rw [← HV.out]; unfold lgL; rw [HL.out.1, HL.out.2.1, HL.out.2.2, decide_eq_false ha, decide_eq_false hb, decide_eq_false hc]; rfl)
 clear HV
 go_wp2_with fail
 go_loopw [3] (fun iv wr => ∃ i : Nat, iv = .int .i64 (i : Nat) ∧ i ≤ n ∧ Hid ((L.bodies.take i).any lgB = false) ∧ Blk wr w.heap.size 36 #[strV L.name, .slice A n c, .slice B p d, .slice C q e] ∧ Below w.heap.size w wr) (fun iv _ => n - (intOf iv).toNat)
 case atStart => exact ⟨0, rfl, Nat.zero_le _, Lib.hid rfl, blkAt _ _ _ (by simp), (brefl w).alloc (Nat.le_refl _) _⟩
 case round =>
  obtain ⟨i, rfl, hi, HI, xL, hb0⟩ := hrel
  rename World => wa
  have hlL : w.heap.size < wa.heap.size := xL.lt
  have cL := xL.cell 1
  rcases Nat.lt_or_ge i n with hlt | hge
  ·have hi1 : ((i : Int) < (n : Int)) = True := by simp; omega
   obtain ⟨g, o, b, e1, hg, _, hbi, hB⟩ := (H.out.bodies.bd hb0).at_ hlt
   subst e1
   obtain ⟨A', n', c', c0, c1, hM, hnm⟩ := hB
   have hnc' := hM.2.1
   have HM := Lib.hid hM
   have HBI := Lib.hid hbi
   by_cases hp4 : 40 < n'
   ·have fp : ((40 : Int) < (n' : Int)) = True := eq_true (by omega)
    have hvt : v = true := by rw [← HV2.out]; exact any_hit HBI.out (by unfold lgB; rw [hM.1, decide_eq_true hp4]; rfl)
    subst hvt
    clear hM hbi
    go_wp2_with fail
    go_ret
    exact ⟨rfl, hb0⟩
   have fp : ((40 : Int) < (n' : Int)) = False := eq_false (by omega)
   clear hM hbi
   go_wp2_with fail
   clear cL c0
   go_loopw [4] (fun jv w2 => ∃ j : Nat, jv = .int .i64 (j : Nat) ∧ j ≤ n' ∧ Hid ((b.pts.take j).any lgM = false) ∧ Below wa.heap.size wa w2) (fun jv _ => n' - (intOf jv).toNat)
   case atStart => exact ⟨0, rfl, Nat.zero_le _, Lib.hid rfl, brefl wa⟩
   case round =>
    obtain ⟨j, rfl, hj, HJ, hb2⟩ := hrel
    rename World => wb
    have xL2 := xL.below hb2 xL.lt
    have hlL2 : w.heap.size < wb.heap.size := xL2.lt
    have cL2 := xL2.cell 1
    have bwb := hb0.trans (hb2.mono hb0.size)
    have c1 := cell_belw c1 hb2
    rcases Nat.lt_or_ge j n' with hjl | hjg
    ·have hj1 : ((j : Int) < (n' : Int)) = True := by simp; omega
     obtain ⟨g', o', m, e1, hg', _, hmj, hM⟩ := (HM.out.mk_ hb2).at_ hjl
     subst e1
     have HMJ := Lib.hid hmj
     obtain ⟨d0, ⟨b1, A1, n1, c1', D1, m1, e1, d1, d2, d3, hQ1⟩, ⟨b2, A2, n2, c2, D2, m2, e2, d4, d5, d6, hQ2⟩, hmn⟩ := hM
     have d2 : wb.cell? ⟨g', o' + j * 7 + 2, none⟩ = some (.slice A1 n1 c1') := d2
     have d3 : wb.cell? ⟨g', o' + j * 7 + 3, none⟩ = some (.slice D1 m1 e1) := d3
     have d5 : wb.cell? ⟨g', o' + j * 7 + 5, none⟩ = some (.slice A2 n2 c2) := d5
     have d6 : wb.cell? ⟨g', o' + j * 7 + 6, none⟩ = some (.slice D2 m2 e2) := d6
     have HQ := Lib.hid (And.intro hQ1.2.1.2.1 (And.intro hQ1.2.2.1.2.1 (And.intro hQ2.2.1.2.1 hQ2.2.2.1.2.1)))
     have s1 := big47 hQ1.2.2.2.1
     have s2 := big47 hQ1.2.2.2.2
     have s3 := big47 hQ2.2.2.2.1
     have s4 := big47 hQ2.2.2.2.2
     have hgb : g < wb.heap.size := by have := hb2.size; omega
     have u1 : IntKind.i64.wrap ((n1 : Int) + (m1 : Int)) = (n1 : Int) + (m1 : Int) := wrap_i64 (by omega) (by omega)
     have u2 : IntKind.i64.wrap ((n1 : Int) + (m1 : Int) + (n2 : Int)) = (n1 : Int) + (m1 : Int) + (n2 : Int) := wrap_i64 (by omega) (by omega)
     have u3 : IntKind.i64.wrap ((n1 : Int) + (m1 : Int) + (n2 : Int) + (m2 : Int)) = (n1 : Int) + (m1 : Int) + (n2 : Int) + (m2 : Int) := wrap_i64 (by omega) (by omega)
     clear hmj hQ1 hQ2
     by_cases h40 : 40 < n1 + m1 + n2 + m2
     ·have f4 : ((40 : Int) < (n1 : Int) + (m1 : Int) + (n2 : Int) + (m2 : Int)) = True := eq_true (by omega)
      have hm6 : lgM m = true := by unfold lgM; rw [← HQ.out.1, ← HQ.out.2.1, ← HQ.out.2.2.1, ← HQ.out.2.2.2]; exact decide_eq_true h40
      have hvt : v = true := by rw [← HV2.out]; exact any_hit HBI.out (by unfold lgB; rw [any_hit HMJ.out hm6, Bool.or_true])
      subst hvt
      clear s1 s2 s3 s4
      go_wp2_with fail
      go_ret
      exact ⟨rfl, bwb.alloc (by have := bwb.size; omega) _⟩
     ·have f4 : ((40 : Int) < (n1 : Int) + (m1 : Int) + (n2 : Int) + (m2 : Int)) = False := eq_false (by omega)
      have hm6 : lgM m = false := by unfold lgM; rw [← HQ.out.1, ← HQ.out.2.1, ← HQ.out.2.2.1, ← HQ.out.2.2.2]; exact decide_eq_false h40
      have HJ2 := Lib.hid (any_step HMJ.out HJ.out hm6)
      clear hm6 s1 s2 s3 s4
      go_wp2_with fail
      go_roundw
      case rel => exact ⟨j + 1, by go_num, by omega, HJ2, hb2.alloc hb2.size _⟩
      case measure => simp [intOf]; omega
    ·have hj1 : ((j : Int) < (n' : Int)) = False := by simp; omega
     have hjn : b.pts.take j = b.pts := List.take_of_length_le (by rw [HM.out.1]; exact hjg)
     rw [hjn] at HJ
     have HI2 := Lib.hid (any_step HBI.out HI.out (by unfold lgB; rw [HM.out.1, decide_eq_false hp4, HJ.out]; rfl : lgB b = false))
     clear hjn
     go_wp2_with fail
     go_roundw
     case rel => exact ⟨i + 1, by go_num, by omega, HI2, xL2, bwb⟩
     case measure => simp [intOf]; omega
  ·have hi1 : ((i : Int) < (n : Int)) = False := by simp; omega
   have hin : L.bodies.take i = L.bodies := List.take_of_length_le (by rw [HL.out.1]; exact hge)
   rw [hin] at HI
   have hvf : v = false := by rw [← HV2.out]; exact HI.out
   subst hvf
   clear hin
   go_wp2_with fail
   go_ret
   exact ⟨rfl, hb0⟩
end Go.Proofs.YtoiijifnfdgfpaaGreatDoor

/- Walks: the fixed linkage of the Print laws. -/
namespace Go.Proofs.YtoiijifnfdgfpaaGreatDoor
open Go Go.RowKit Bn
attribute [local go_sem ↓] Go.wp_at_zero Go.wp_at_succ
def mkO : MarkL := ⟨[79], rd 0, rd 0⟩
def mkC : MarkL := ⟨[67], rd 4, rd 0⟩
def mkA : MarkL := ⟨[65], rd 1, rd (1 / 2)⟩
def bdF : BodyL := ⟨[102, 114, 97, 109, 101], [mkO, mkC]⟩
def bdC : BodyL := ⟨[99, 114, 97, 110, 107], [mkO, mkA]⟩
def exL : LinkL := ⟨[109], [bdF, bdC], [⟨[106], 0, 1, 0, 0, 0, 0⟩], [⟨[100], 1⟩]⟩
theorem exL_nm : NmAll exL := ⟨by decide, by decide, by decide⟩
theorem qv0 (w : World) : QV w false none 0 0 none 0 0 0 40 := QV.zero w 40
def VMk (mk : MarkL) : Value → World → Prop := fun v w => ∃ b A n c D m e b' A' n' c' D' m' e', v = .agg #[strV mk.name, .bool b, .slice A n c, .slice D m e, .bool b', .slice A' n' c', .slice D' m' e'] ∧ QD w b A n c D m e mk.x 40 ∧ QD w b' A' n' c' D' m' e' mk.y 40
theorem gMk (mk : MarkL) : Grw (VMk mk) := fun _ _ _ ⟨b, A, n, c, D, m, e, b', A', n', c', D', m', e', h0, h1, h2⟩ hb => ⟨b, A, n, c, D, m, e, b', A', n', c', D', m', e', h0, h1.belw hb, h2.belw hb⟩
def VSl {α : Type} (P : World → Nat → Nat → α → Prop) (s n : Nat) (l : List α) : Value → World → Prop := fun v w => ∃ g, v = .slice (some ⟨g, 0, none⟩) n n ∧ SlS P s w (some ⟨g, 0, none⟩) n n l
theorem gSl {α : Type} (P : World → Nat → Nat → α → Prop) (s n : Nat) (l : List α) (hP : ∀ {w w' : World} {g o : Nat} {a : α}, P w g o a → Below w.heap.size w w' → P w' g o a) : Grw (VSl P s n l) := fun _ _ _ ⟨g, h0, h⟩ hb => ⟨g, h0, h.belw (fun _ _ _ x => hP x hb) hb⟩
def VBd (b : BodyL) : Value → World → Prop := fun v w => ∃ g, v = .agg #[strV b.name, .slice (some ⟨g, 0, none⟩) 2 2] ∧ SlS (MkAt 40) 7 w (some ⟨g, 0, none⟩) 2 2 b.pts
theorem gBd (b : BodyL) : Grw (VBd b) := fun _ _ _ ⟨g, h0, h⟩ hb => ⟨g, h0, h.mk_ hb⟩
def VLk (L : LinkL) : Value → World → Prop := fun v w => ∃ g g' g'', v = .agg #[strV L.name, .slice (some ⟨g, 0, none⟩) 2 2, .slice (some ⟨g', 0, none⟩) 1 1, .slice (some ⟨g'', 0, none⟩) 1 1] ∧ LkS 40 w (some ⟨g, 0, none⟩) 2 2 (some ⟨g', 0, none⟩) 1 1 (some ⟨g'', 0, none⟩) 1 1 L
theorem gLk (L : LinkL) : Grw (VLk L) := fun _ _ _ ⟨g, g', g'', h0, h⟩ hb => ⟨g, g', g'', h0, h.belw hb⟩
theorem sls2 {α : Type} {P : World → Nat → Nat → α → Prop} {s g : Nat} {w : World} {a b : α} (hg : g < w.heap.size) (h0 : P w g 0 a) (h1 : P w g s b) : SlS P s w (some ⟨g, 0, none⟩) 2 2 [a, b] := by
  refine ⟨rfl, Nat.le_refl _, fun _ => ⟨g, 0, rfl, hg, fun i x hx => ?_⟩⟩
  match i, hx with
  | 0, hx => simp at hx; subst hx; simpa using h0
  | 1, hx => simp at hx; subst hx; simpa using h1
theorem sls1 {α : Type} {P : World → Nat → Nat → α → Prop} {s g : Nat} {w : World} {a : α} (hg : g < w.heap.size) (h0 : P w g 0 a) : SlS P s w (some ⟨g, 0, none⟩) 1 1 [a] := by
  refine ⟨rfl, Nat.le_refl _, fun _ => ⟨g, 0, rfl, hg, fun i x hx => ?_⟩⟩
  match i, hx with
  | 0, hx => simp at hx; subst hx; simpa using h0
theorem QV.rd_ {w : World} {b : Bool} {A D : Option Addr} {n c m e k : Nat} {q : Rat} (h : QV w b A n c D m e q k) : QD w b A n c D m e (rd q) k := h
theorem mkAt_blk {w : World} {g o : Nat} {nm : List UInt8} {x y : RD} {b b' : Bool} {A D A' D' : Option Addr} {n c m e n' c' m' e' : Nat} (h0 : w.cell? ⟨g, o, none⟩ = some (strV nm)) (h1 : w.cell? ⟨g, o + 1, none⟩ = some (.bool b)) (h2 : w.cell? ⟨g, o + 2, none⟩ = some (.slice A n c)) (h3 : w.cell? ⟨g, o + 3, none⟩ = some (.slice D m e))
    (h4 : w.cell? ⟨g, o + 4, none⟩ = some (.bool b')) (h5 : w.cell? ⟨g, o + 5, none⟩ = some (.slice A' n' c')) (h6 : w.cell? ⟨g, o + 6, none⟩ = some (.slice D' m' e')) (k1 : QD w b A n c D m e x 40) (k2 : QD w b' A' n' c' D' m' e' y 40) (hn : NmL nm) : MkAt 40 w g o ⟨nm, x, y⟩ :=
  ⟨h0, ⟨b, A, n, c, D, m, e, h1, h2, h3, k1⟩, ⟨b', A', n', c', D', m', e', h4, h5, h6, k2⟩, hn⟩
theorem slMk {w : World} {nm : List UInt8} {p q : RD} {b b' : Bool} {A D A' D' : Option Addr} {n c m e n' c' m' e' : Nat} {t : TypeId} (h1 : QD w b A n c D m e p 40) (h2 : QD w b' A' n' c' D' m' e' q 40) (hn : decide (nm.length < 1000) = true) :
    VSl (MkAt 40) 7 2 [mkO, ⟨nm, p, q⟩] (.slice (some ⟨w.heap.size, 0, none⟩) 2 2) (w.alloc (.cells #[.string ⟨#[79]⟩, .bool false, .slice none 0 0, .slice none 0 0, .bool false, .slice none 0 0, .slice none 0 0, strV nm, .bool b, .slice A n c, .slice D m e, .bool b', .slice A' n' c', .slice D' m' e'] t)) := by
  have x := Blk.new w t #[.string ⟨#[79]⟩, .bool false, .slice none 0 0, .slice none 0 0, .bool false, .slice none 0 0, .slice none 0 0, strV nm, .bool b, .slice A n c, .slice D m e, .bool b', .slice A' n' c', .slice D' m' e']
  have hb := (brefl w).alloc (Nat.le_refl _) (.cells #[.string ⟨#[79]⟩, .bool false, .slice none 0 0, .slice none 0 0, .bool false, .slice none 0 0, .slice none 0 0, strV nm, .bool b, .slice A n c, .slice D m e, .bool b', .slice A' n' c', .slice D' m' e'] t)
  have hn := of_decide_eq_true hn
  exact ⟨w.heap.size, rfl, sls2 x.lt (mkAt_blk (x.cell 0) (x.cell 1) (x.cell 2) (x.cell 3) (x.cell 4) (x.cell 5) (x.cell 6) (qv0 _).rd_ (qv0 _).rd_ (by unfold NmL; decide)) (mkAt_blk (x.cell 7) (x.cell 8) (x.cell 9) (x.cell 10) (x.cell 11) (x.cell 12) (x.cell 13) (h1.belw hb) (h2.belw hb) (by unfold NmL; omega))⟩
theorem slBd {w : World} {g g' : Nat} {b b' : BodyL} {t : TypeId} (h1 : SlS (MkAt 40) 7 w (some ⟨g, 0, none⟩) 2 2 b.pts) (h2 : SlS (MkAt 40) 7 w (some ⟨g', 0, none⟩) 2 2 b'.pts) (hn : (decide (b.name.length < 1000) && decide (b'.name.length < 1000)) = true) :
    VSl (BdAt 40) 2 2 [b, b'] (.slice (some ⟨w.heap.size, 0, none⟩) 2 2) (w.alloc (.cells #[strV b.name, .slice (some ⟨g, 0, none⟩) 2 2, strV b'.name, .slice (some ⟨g', 0, none⟩) 2 2] t)) := by
  have x := Blk.new w t #[strV b.name, .slice (some ⟨g, 0, none⟩) 2 2, strV b'.name, .slice (some ⟨g', 0, none⟩) 2 2]
  have hb := (brefl w).alloc (Nat.le_refl _) (.cells #[strV b.name, .slice (some ⟨g, 0, none⟩) 2 2, strV b'.name, .slice (some ⟨g', 0, none⟩) 2 2] t)
  rw [Bool.and_eq_true, decide_eq_true_eq, decide_eq_true_eq] at hn
  exact ⟨w.heap.size, rfl, sls2 x.lt ⟨_, _, _, x.cell 0, x.cell 1, h1.mk_ hb, by unfold NmL; omega⟩ ⟨_, _, _, x.cell 2, x.cell 3, h2.mk_ hb, by unfold NmL; omega⟩⟩
theorem slJt {w : World} {j : JointL} {t : TypeId} (hn : decide (j.name.length < 1000) = true) :
    VSl JtAt 7 1 [j] (.slice (some ⟨w.heap.size, 0, none⟩) 1 1) (w.alloc (.cells #[strV j.name, .int .i64 j.kind, .int .i64 j.a, .int .i64 j.point, .int .i64 j.b, .int .i64 j.on, .int .i64 j.to_] t)) := by
  have x := Blk.new w t #[strV j.name, .int .i64 j.kind, .int .i64 j.a, .int .i64 j.point, .int .i64 j.b, .int .i64 j.on, .int .i64 j.to_]
  have hn := of_decide_eq_true hn
  exact ⟨w.heap.size, rfl, sls1 x.lt ⟨x.cell 0, x.cell 1, x.cell 2, x.cell 3, x.cell 4, x.cell 5, x.cell 6, by unfold NmL; omega⟩⟩
theorem slDr {w : World} {d : DriverL} {t : TypeId} (hn : decide (d.name.length < 1000) = true) :
    VSl DrAt 2 1 [d] (.slice (some ⟨w.heap.size, 0, none⟩) 1 1) (w.alloc (.cells #[strV d.name, .int .i64 d.body] t)) := by
  have x := Blk.new w t #[strV d.name, .int .i64 d.body]
  have hn := of_decide_eq_true hn
  exact ⟨w.heap.size, rfl, sls1 x.lt ⟨x.cell 0, x.cell 1, by unfold NmL; omega⟩⟩
theorem l_example (w : World) : Calls Tryz.prog 69 #[] w (fun e w' => ∃ v, e = .returned v ∧ VLk exL v w' ∧ Below w.heap.size w w') := by
  go_enter Tryz.func69, Tryz.ntmps69
  go_wp2_with fail
  have q0 : Below w.heap.size w (w.alloc (.cells #[.string ⟨#[]⟩, .slice none 0 0, .slice none 0 0, .slice none 0 0] 36)) := (brefl w).alloc (Nat.le_refl _) _
  have x0 : Blk (w.alloc (.cells #[.string ⟨#[]⟩, .slice none 0 0, .slice none 0 0, .slice none 0 0] 36)) w.heap.size 36 #[.string ⟨#[]⟩, .slice none 0 0, .slice none 0 0, .slice none 0 0] := blkAt _ _ _ rfl
  generalize (w.alloc (.cells #[.string ⟨#[]⟩, .slice none 0 0, .slice none 0 0, .slice none 0 0] 36)) = w0 at q0 x0 ⊢
  (with_reducible refine (g_make w0 1 2 (by decide) (by decide) (by decide) (by decide) (1 / 2) 1 (by decide) (by decide +kernel) (by unfold Sz; decide +kernel)).mono ?_); rintro e' w1 ⟨b, A, n, c, D, m, e, rfl, hq, hb1⟩
  have q1 := q0.trans (hb1.mono q0.size)
  have x1 := x0.below hb1 x0.lt
  go_wp2_with fail
  have X := Lib.hid (Blk.new w1 72 #[.bool b, .slice A n c, .slice D m e])
  have q2 : Below w1.heap.size w1 (w1.alloc (.cells #[.bool b, .slice A n c, .slice D m e] 72)) := (brefl w1).alloc (Nat.le_refl _) _
  have hQ := Lib.hid (hq.belw q2)
  have x2 := x1.below q2 x1.lt
  have bw2 := q1.trans (q2.mono q1.size)
  generalize (w1.alloc (.cells #[.bool b, .slice A n c, .slice D m e] 72)) = w2 at X q2 hQ x2 bw2 ⊢
  clear x0 q0 x1 q1 hb1 hq
  refine wp_region_fin (n := 17) (fr := fun xf => ⟨List.toArray (.pointer (some ⟨w.heap.size, 0, none⟩) :: .pointer (some ⟨w1.heap.size, 0, none⟩) :: .int .i64 0 :: .tuple #[.agg #[.bool b, .slice A n c, .slice D m e], .int .i64 0] :: .tuple #[.agg #[.bool b, .slice A n c, .slice D m e], .int .i64 0] :: .agg #[.bool b, .slice A n c, .slice D m e] :: .int .i64 0 :: xf 0 :: xf 1 :: xf 2 :: xf 3 :: xf 4 :: xf 5 :: xf 6 :: xf 7 :: xf 8 :: xf 9 :: xf 10 :: xf 11 :: xf 12 :: xf 13 :: xf 14 :: xf 15 :: xf 16 :: []), []⟩) (R := fun ri => List.getD ((PEq (.agg #[.string ⟨#[79]⟩, .bool false, .slice none 0 0, .slice none 0 0, .bool false, .slice none 0 0, .slice none 0 0])) :: (VQ 4 1) :: (VMk mkC) :: (VSl (MkAt 40) 7 2 [mkO, mkC]) :: (VBd bdF) :: (PEq (.agg #[.string ⟨#[79]⟩, .bool false, .slice none 0 0, .slice none 0 0, .bool false, .slice none 0 0, .slice none 0 0])) :: (VQ 1 1) :: (PEq (.agg #[.bool b, .slice A n c, .slice D m e])) :: (VMk mkA) :: (VSl (MkAt 40) 7 2 [mkO, mkA]) :: (VBd bdC) :: (VSl (BdAt 40) 2 2 [bdF, bdC]) :: (PEq (.agg #[.string ⟨#[106]⟩, .int .i64 0, .int .i64 1, .int .i64 0, .int .i64 0, .int .i64 0, .int .i64 0])) :: (VSl JtAt 7 1 exL.joints) :: (PEq (.agg #[.string ⟨#[100]⟩, .int .i64 1])) :: (VSl DrAt 2 1 exL.drivers) :: (VLk exL) :: PAny :: []) ri (fun _ _ => True)) (x0 := fun _ => undef) (by kernel_rfl) rfl
    (each_of ⟨(fun _ _ _ => rfl), (fun _ _ _ => rfl), (fun _ _ _ => rfl), (fun _ _ _ => rfl), (fun _ _ _ => rfl), (fun _ _ _ => rfl), (fun _ _ _ => rfl), (fun _ _ _ => rfl), (fun _ _ _ => rfl), (fun _ _ _ => rfl), (fun _ _ _ => rfl), (fun _ _ _ => rfl), (fun _ _ _ => rfl), (fun _ _ _ => rfl), (fun _ _ _ => rfl), (fun _ _ _ => rfl), (fun _ _ _ => rfl), (fun h => absurd h (by decide)), trivial⟩) (each_of (acyc_from _ 0 (by kernel_rfl))) (AllGrw.get _ ⟨gEq _, gQ _ _, gMk _, gSl _ _ _ _ (fun h hb => h.belw hb), gBd _, gEq _, gQ _ _, gEq _, gMk _, gSl _ _ _ _ (fun h hb => h.belw hb), gBd _, gSl _ _ _ _ (fun h hb => h.belw hb), gEq _, gSl _ _ _ _ (fun h hb => h.belw hb), gEq _, gSl _ _ _ _ (fun h hb => h.belw hb), gLk _, gAny, trivial⟩)
    (fun j hj => reach_of (by kernel_rfl) hj) (each_of ⟨?_, ?_, ?_, ?_, ?_, ?_, ?_, ?_, ?_, ?_, ?_, ?_, ?_, ?_, ?_, ?_, ?_, ?_, trivial⟩) ?_
  · exact fun _ xf wq hb hd K hK => by
      (try dsimp only)
      go_simp
      have hz := hK.out _ _ rfl (brefl _)
      exact hz
  · exact fun _ xf wq hb hd K hK => by
      (try dsimp only)
      go_simp
      go_at_call 117
      (with_reducible refine (g_of _ 4 (by decide) (by decide)).mono ?_); rintro e wr ⟨b3, A3, n3, c3, D3, m3, e3, rfl, h3, hbr⟩
      exact hK.out _ _ ⟨b3, A3, n3, c3, D3, m3, e3, rfl, by simpa using h3⟩ hbr
  · exact fun _ xf wq hb hd K hK => by
      obtain ⟨b3, A3, n3, c3, D3, m3, e3, dq1, h3⟩ : VQ 4 1 (xf 1) wq := hd ⟨1, .data⟩ (by simp) rfl
      (try dsimp only); (try simp only [dq1])
      go_simp
      have hz := hK.out _ _ ⟨b3, A3, n3, c3, D3, m3, e3, _, _, _, _, _, _, _, rfl, (h3.mono (show 1 ≤ 40 by decide)).rd_, (qv0 _).rd_⟩ (brefl _)
      simp only [dq1] at hz
      exact hz
  · exact fun _ xf wq hb hd K hK => by
      have dq0 : xf 0 = .agg #[.string ⟨#[79]⟩, .bool false, .slice none 0 0, .slice none 0 0, .bool false, .slice none 0 0, .slice none 0 0] := hd ⟨0, .data⟩ (by simp) rfl
      obtain ⟨b3, A3, n3, c3, D3, m3, e3, b4, A4, n4, c4, D4, m4, e4, dq2, h3, h4⟩ : VMk mkC (xf 2) wq := hd ⟨2, .data⟩ (by simp) rfl
      (try dsimp only); (try simp only [dq0, dq2])
      go_simp
      have hz := hK.out (.slice (some ⟨wq.heap.size, 0, none⟩) 2 2) (wq.alloc (.cells #[.string ⟨#[79]⟩, .bool false, .slice none 0 0, .slice none 0 0, .bool false, .slice none 0 0, .slice none 0 0, strV mkC.name, .bool b3, .slice A3 n3 c3, .slice D3 m3 e3, .bool b4, .slice A4 n4 c4, .slice D4 m4 e4] 85)) (slMk h3 h4 rfl) ((brefl wq).alloc (Nat.le_refl _) _)
      simp only [dq0, dq2] at hz
      exact hz
  · exact fun _ xf wq hb hd K hK => by
      obtain ⟨g3, dq3, h3⟩ : VSl (MkAt 40) 7 2 [mkO, mkC] (xf 3) wq := hd ⟨3, .data⟩ (by simp) rfl
      (try dsimp only); (try simp only [dq3])
      go_simp
      have hz := hK.out _ _ ⟨g3, rfl, h3⟩ (brefl _)
      simp only [dq3] at hz
      exact hz
  · exact fun _ xf wq hb hd K hK => by
      (try dsimp only)
      go_simp
      have hz := hK.out _ _ rfl (brefl _)
      exact hz
  · exact fun _ xf wq hb hd K hK => by
      (try dsimp only)
      go_simp
      go_at_call 117
      (with_reducible refine (g_of _ 1 (by decide) (by decide)).mono ?_); rintro e wr ⟨b3, A3, n3, c3, D3, m3, e3, rfl, h3, hbr⟩
      exact hK.out _ _ ⟨b3, A3, n3, c3, D3, m3, e3, rfl, by simpa using h3⟩ hbr
  · exact fun _ xf wq hb hd K hK => by
      have hc0 : wq.cell? ⟨w1.heap.size, 0, none⟩ = some (.bool b) := (X.out.below hb X.out.lt).cell 0
      have hc1 : wq.cell? ⟨w1.heap.size, 1, none⟩ = some (.slice A n c) := (X.out.below hb X.out.lt).cell 1
      have hc2 : wq.cell? ⟨w1.heap.size, 2, none⟩ = some (.slice D m e) := (X.out.below hb X.out.lt).cell 2
      (try dsimp only)
      go_simp
      have hz := hK.out (.agg #[.bool b, .slice A n c, .slice D m e]) _ rfl (brefl _)
      exact hz
  · exact fun _ xf wq hb hd K hK => by
      obtain ⟨b3, A3, n3, c3, D3, m3, e3, dq6, h3⟩ : VQ 1 1 (xf 6) wq := hd ⟨6, .data⟩ (by simp) rfl
      have dq7 : xf 7 = .agg #[.bool b, .slice A n c, .slice D m e] := hd ⟨7, .data⟩ (by simp) rfl
      (try dsimp only); (try simp only [dq6, dq7])
      go_simp
      have hz := hK.out _ _ ⟨b3, A3, n3, c3, D3, m3, e3, _, _, _, _, _, _, _, rfl, (h3.mono (show 1 ≤ 40 by decide)).rd_, ((hQ.out.belw hb).mono (show 1 ≤ 40 by decide)).rd_⟩ (brefl _)
      simp only [dq6, dq7] at hz
      exact hz
  · exact fun _ xf wq hb hd K hK => by
      have dq5 : xf 5 = .agg #[.string ⟨#[79]⟩, .bool false, .slice none 0 0, .slice none 0 0, .bool false, .slice none 0 0, .slice none 0 0] := hd ⟨5, .data⟩ (by simp) rfl
      obtain ⟨b3, A3, n3, c3, D3, m3, e3, b4, A4, n4, c4, D4, m4, e4, dq8, h3, h4⟩ : VMk mkA (xf 8) wq := hd ⟨8, .data⟩ (by simp) rfl
      (try dsimp only); (try simp only [dq5, dq8])
      go_simp
      have hz := hK.out (.slice (some ⟨wq.heap.size, 0, none⟩) 2 2) (wq.alloc (.cells #[.string ⟨#[79]⟩, .bool false, .slice none 0 0, .slice none 0 0, .bool false, .slice none 0 0, .slice none 0 0, strV mkA.name, .bool b3, .slice A3 n3 c3, .slice D3 m3 e3, .bool b4, .slice A4 n4 c4, .slice D4 m4 e4] 85)) (slMk h3 h4 rfl) ((brefl wq).alloc (Nat.le_refl _) _)
      simp only [dq5, dq8] at hz
      exact hz
  · exact fun _ xf wq hb hd K hK => by
      obtain ⟨g3, dq9, h3⟩ : VSl (MkAt 40) 7 2 [mkO, mkA] (xf 9) wq := hd ⟨9, .data⟩ (by simp) rfl
      (try dsimp only); (try simp only [dq9])
      go_simp
      have hz := hK.out _ _ ⟨g3, rfl, h3⟩ (brefl _)
      simp only [dq9] at hz
      exact hz
  · exact fun _ xf wq hb hd K hK => by
      obtain ⟨g3, dq4, h3⟩ : VBd bdF (xf 4) wq := hd ⟨4, .data⟩ (by simp) rfl
      obtain ⟨g4, dq10, h4⟩ : VBd bdC (xf 10) wq := hd ⟨10, .data⟩ (by simp) rfl
      (try dsimp only); (try simp only [dq4, dq10])
      go_simp
      have hz := hK.out (.slice (some ⟨wq.heap.size, 0, none⟩) 2 2) (wq.alloc (.cells #[strV bdF.name, .slice (some ⟨g3, 0, none⟩) 2 2, strV bdC.name, .slice (some ⟨g4, 0, none⟩) 2 2] 56)) (slBd h3 h4 rfl) ((brefl wq).alloc (Nat.le_refl _) _)
      simp only [dq4, dq10] at hz
      exact hz
  · exact fun _ xf wq hb hd K hK => by
      (try dsimp only)
      go_simp
      have hz := hK.out _ _ rfl (brefl _)
      exact hz
  · exact fun _ xf wq hb hd K hK => by
      have dq12 : xf 12 = .agg #[.string ⟨#[106]⟩, .int .i64 0, .int .i64 1, .int .i64 0, .int .i64 0, .int .i64 0, .int .i64 0] := hd ⟨12, .data⟩ (by simp) rfl
      (try dsimp only); (try simp only [dq12])
      go_simp
      have hz := hK.out (.slice (some ⟨wq.heap.size, 0, none⟩) 1 1) (wq.alloc (.cells #[.string ⟨#[106]⟩, .int .i64 0, .int .i64 1, .int .i64 0, .int .i64 0, .int .i64 0, .int .i64 0] 60)) (slJt (j := ⟨[106], 0, 1, 0, 0, 0, 0⟩) rfl) ((brefl wq).alloc (Nat.le_refl _) _)
      simp only [dq12] at hz
      exact hz
  · exact fun _ xf wq hb hd K hK => by
      (try dsimp only)
      go_simp
      have hz := hK.out _ _ rfl (brefl _)
      exact hz
  · exact fun _ xf wq hb hd K hK => by
      have dq14 : xf 14 = .agg #[.string ⟨#[100]⟩, .int .i64 1] := hd ⟨14, .data⟩ (by simp) rfl
      (try dsimp only); (try simp only [dq14])
      go_simp
      have hz := hK.out (.slice (some ⟨wq.heap.size, 0, none⟩) 1 1) (wq.alloc (.cells #[.string ⟨#[100]⟩, .int .i64 1] 58)) (slDr (d := ⟨[100], 1⟩) rfl) ((brefl wq).alloc (Nat.le_refl _) _)
      simp only [dq14] at hz
      exact hz
  · exact fun _ xf wq hb hd K hK => by
      obtain ⟨g3, dq11, h3⟩ : VSl (BdAt 40) 2 2 [bdF, bdC] (xf 11) wq := hd ⟨11, .data⟩ (by simp) rfl
      obtain ⟨g4, dq13, h4⟩ : VSl JtAt 7 1 exL.joints (xf 13) wq := hd ⟨13, .data⟩ (by simp) rfl
      obtain ⟨g5, dq15, h5⟩ : VSl DrAt 2 1 exL.drivers (xf 15) wq := hd ⟨15, .data⟩ (by simp) rfl
      (try dsimp only); (try simp only [dq11, dq13, dq15])
      go_simp
      have hz := hK.out _ _ ⟨_, _, _, rfl, (by unfold NmL; decide), h3, h4, h5⟩ (brefl _)
      simp only [dq11, dq13, dq15] at hz
      exact hz
  · exact fun hlt => absurd hlt (by decide)
  intro o ho xf wq hb hr K hK
  injection ho with ho
  subst ho
  obtain ⟨g, g', g'', dq, hL⟩ : VLk exL (xf 16) wq := hr 16 (by decide)
  have x3 := x2.below hb x2.lt
  have hc0 : wq.cell? ⟨w.heap.size, 0, none⟩ = some (.string ⟨#[]⟩) := x3.cell 0
  have hc1 : wq.cell? ⟨w.heap.size, 1, none⟩ = some (.slice none 0 0) := x3.cell 1
  have hc2 : wq.cell? ⟨w.heap.size, 2, none⟩ = some (.slice none 0 0) := x3.cell 2
  have hc3 : wq.cell? ⟨w.heap.size, 3, none⟩ = some (.slice none 0 0) := x3.cell 3
  have hf0 : wq.frozen? ⟨w.heap.size, 0, none⟩ = false := x3.frozen 0
  have hf1 : wq.frozen? ⟨w.heap.size, 1, none⟩ = false := x3.frozen 1
  have hf2 : wq.frozen? ⟨w.heap.size, 2, none⟩ = false := x3.frozen 2
  have hf3 : wq.frozen? ⟨w.heap.size, 3, none⟩ = false := x3.frozen 3
  dsimp only
  simp only [dq]
  go_simp
  refine hK.out _ _ ?_
  have hL4 := LkS.off exL_nm hL (x3.zero rfl) (((((Off.refl w.heap.size wq).set 0 (.string ⟨exL.name.toArray⟩)).set 1 (.slice (some ⟨g, 0, none⟩) 2 2)).set 2 (.slice (some ⟨g', 0, none⟩) 1 1)).set 3 (.slice (some ⟨g'', 0, none⟩) 1 1))
  have b4 := ((((bw2.trans (hb.mono bw2.size)).setCell (p := ⟨w.heap.size, 0, none⟩) (Nat.le_refl _) (.string ⟨exL.name.toArray⟩)).setCell (p := ⟨w.heap.size, 1, none⟩) (Nat.le_refl _) (.slice (some ⟨g, 0, none⟩) 2 2)).setCell (p := ⟨w.heap.size, 2, none⟩) (Nat.le_refl _) (.slice (some ⟨g', 0, none⟩) 1 1)).setCell (p := ⟨w.heap.size, 3, none⟩) (Nat.le_refl _) (.slice (some ⟨g'', 0, none⟩) 1 1)
  have x4 := (((x3.set_ 0 (.string ⟨exL.name.toArray⟩)).set_ 1 (.slice (some ⟨g, 0, none⟩) 2 2)).set_ 2 (.slice (some ⟨g', 0, none⟩) 1 1)).set_ 3 (.slice (some ⟨g'', 0, none⟩) 1 1)
  clear hL x3 hc0 hc1 hc2 hc3 hf0 hf1 hf2 hf3 hr hb x2 bw2 X q2 hQ
  generalize ((((wq.setCell ⟨w.heap.size, 0, none⟩ (.string ⟨exL.name.toArray⟩)).setCell ⟨w.heap.size, 1, none⟩ (.slice (some ⟨g, 0, none⟩) 2 2)).setCell ⟨w.heap.size, 2, none⟩ (.slice (some ⟨g', 0, none⟩) 1 1)).setCell ⟨w.heap.size, 3, none⟩ (.slice (some ⟨g'', 0, none⟩) 1 1)) = w5 at hL4 b4 x4 ⊢
  have y0 : w5.cell? ⟨w.heap.size, 0, none⟩ = some (strV exL.name) := x4.cell 0
  have y1 : w5.cell? ⟨w.heap.size, 1, none⟩ = some (.slice (some ⟨g, 0, none⟩) 2 2) := x4.cell 1
  have y2 : w5.cell? ⟨w.heap.size, 2, none⟩ = some (.slice (some ⟨g', 0, none⟩) 1 1) := x4.cell 2
  have y3 : w5.cell? ⟨w.heap.size, 3, none⟩ = some (.slice (some ⟨g'', 0, none⟩) 1 1) := x4.cell 3
  go_wp2_with fail
  refine bodyPost_ret (v := .agg #[strV exL.name, .slice (some ⟨g, 0, none⟩) 2 2, .slice (some ⟨g', 0, none⟩) 1 1, .slice (some ⟨g'', 0, none⟩) 1 1]) (by simp [results, Tryz.results69, go_sem, *] <;> trivial) rfl ?_
  exact ⟨_, rfl, ⟨g, g', g'', rfl, hL4⟩, b4⟩
end Go.Proofs.YtoiijifnfdgfpaaGreatDoor

/- Walks: the Print laws: awake, PrintLinkages, PrintLines. -/
namespace Go.Proofs.YtoiijifnfdgfpaaGreatDoor
open Go Go.RowKit Bn
attribute [local go_sem ↓] Go.wp_at_zero Go.wp_at_succ
theorem ex_out : outErr exL = 0 := by decide +kernel
def exT : List UInt8 := [108, 105, 110, 107, 97, 103, 101, 32, 109, 59, 10, 98, 111, 100, 121, 32, 102, 114, 97, 109, 101, 32, 123, 32, 79, 32, 48, 32, 48, 59, 32, 67, 32, 52, 32, 48, 59, 32, 125, 10, 98, 111, 100, 121, 32, 99, 114, 97, 110, 107, 32, 123, 32, 79, 32].append [48, 32, 48, 59, 32, 65, 32, 49, 32, 49, 47, 50, 59, 32, 125, 10, 112, 105, 110, 32, 106, 32, 99, 114, 97, 110, 107, 46, 79, 32, 102, 114, 97, 109, 101, 46, 79, 59, 10, 100, 114, 105, 118, 101, 114, 32, 100, 32, 99, 114, 97, 110, 107, 59, 10]
theorem ex_text : outText exL = exT := by decide +kernel
theorem p_lk (w : World) (A : Option Addr) (n c : Nat) (B : Option Addr) (p d : Nat) (C : Option Addr) (q e : Nat) (L : LinkL) (h : LkS 40 w A n c B p d C q e L) (htab : Tab w) : Calls Tryz.prog 37 #[.agg #[strV L.name, .slice A n c, .slice B p d, .slice C q e]] w (fun e' w' => e' = .returned (.tuple #[strV (outText L), errV (outErr L)]) ∧ Below w.heap.size w w') := by
  by_cases hc : lkErr L = 0
  · exact p_lk_ok w A n c B p d C q e L h htab hc
  · have h1 : outErr L = lkErr L := if_pos hc
    have h2 : outText L = [] := if_neg (by rw [h1]; exact hc)
    rw [h1, h2]
    exact p_lk_err w A n c B p d C q e L h hc
theorem l21_awake (w : World) (htab : Tab w) : Calls Tryz.prog 31 #[] w (RetV w (.bool true)) := by
 have HTab := Lib.hid htab
 clear htab
 go_enter Tryz.func31, Tryz.ntmps31
 go_wp2_with fail
 (with_reducible refine (l_example w).mono ?_); rintro e' w1 ⟨v, rfl, ⟨g, g', g'', rfl, hL⟩, hb1⟩
 go_wp2_with fail
 (with_reducible refine (p_lk w1 _ 2 2 _ 1 1 _ 1 1 exL hL (HTab.out.belw hb1)).mono ?_); rintro e' w2 ⟨rfl, hb2⟩
 rw [ex_text, ex_out, show errV 0 = .nilIface from if_pos rfl]
 have hb := hb1.trans (hb2.mono hb1.size)
 clear hb1 hb2 hL
 unfold exT
 go_wp2_with fail
 go_ret
 exact ⟨rfl, hb⟩
end Go.Proofs.YtoiijifnfdgfpaaGreatDoor

/- A region that draws its order, makes variables of any type and stores to them: what lies below B stays. -/
namespace Go.Proofs.YtoiijifnfdgfpaaGreatDoor
open Go Go.RowKit Bn
attribute [local go_sem ↓] Go.wp_at_zero Go.wp_at_succ
structure FltB where
  a : Nat
  s : Nat
  T : TypeId
  Z : Array Value
  PS : Array Value → World → Prop
structure OwnB where
  g : Nat
  s : Nat
  o : Nat
  T : TypeId
  Z : Array Value
  PS : Array Value → World → Prop
def LinB (ops : Array Oper) (fr : (Nat → Value) → Act) (R : Nat → Value → World → Prop) (es : List FltB) (ow : List OwnB) (B : Nat) (W : World) (L : Array Bool) (a : Act) (w : World) : Prop :=
  ∃ x, a = fr x ∧ (Below B W w ∧ Below B W w) ∧ (∀ i, L.getD i false = true → R i (x i) w) ∧
  (∀ i o, ops[i]? = some o → L.getD i false = true → ∀ e ∈ o.after, Region.binds .any e = true → L.getD e.on false = true) ∧
  (∀ f ∈ es, L.getD f.a false = true → ∃ g c, x f.a = .pointer (some ⟨g, 0, none⟩) ∧ W.heap.size ≤ g ∧ Blk w g f.T c ∧ (L.getD f.s false = false → c = f.Z) ∧ (L.getD f.s false = true → f.PS c w)) ∧
  (∀ f ∈ es, ∀ f' ∈ es, f.a ≠ f'.a → L.getD f.a false = true → L.getD f'.a false = true → x f.a ≠ x f'.a) ∧
  (∀ f ∈ ow, ∃ c, Blk w f.g f.T c ∧ (L.getD f.s false = false → c = f.Z) ∧ (L.getD f.s false = true → f.PS c w))

section
variable (P : Program) (ops : Array Oper) (Q : Exit → Act → World → Prop) (fr : (Nat → Value) → Act) (R : Nat → Value → World → Prop) (es : List FltB) (ow : List OwnB) (B : Nat) (W : World)
def ValStepB (i : Nat) (o : Oper) : Prop := (∀ f ∈ es, i ≠ f.a ∧ i ≠ f.s) ∧ (∀ f ∈ ow, i ≠ f.s) ∧
  ∀ x w, Below B W w → (∀ f ∈ ow, (∀ o', ops[f.s]? = some o' → ∃ e ∈ o'.after, Region.binds .any e = true ∧ e.on = i) → Blk w f.g f.T f.Z) → (∀ e ∈ o.after, Region.binds .any e = true → R e.on (x e.on) w) → ∀ K' : Act → World → Prop, Shut (∀ v w', R i v w' → Below w.heap.size w w' → K' ((fr x).put o.dst v) w') →
    if Region.wanted o (yielded ops (fr x).tmps) = true then Oper.wp P o (fr x) w K' Q else K' ((fr x).put o.dst undef) w
def AllocStepB (i : Nat) (o : Oper) : Prop := ∃ f ∈ es, i = f.a ∧ (∀ f' ∈ es, i ≠ f'.s) ∧ (∀ f' ∈ ow, i ≠ f'.s) ∧ (∀ f' ∈ es, f'.a = i → f' = f) ∧ (∀ v w, R i v w) ∧
  ∀ x w, ∀ K' : Act → World → Prop, Shut (K' ((fr x).put o.dst (.pointer (some ⟨w.heap.size, 0, none⟩))) (w.alloc (.cells f.Z f.T))) →
    if Region.wanted o (yielded ops (fr x).tmps) = true then Oper.wp P o (fr x) w K' Q else K' ((fr x).put o.dst undef) w
def StoreStepB (i : Nat) (o : Oper) : Prop := ∃ f ∈ es, i = f.s ∧ (∀ f' ∈ es, i ≠ f'.a) ∧ (∀ f' ∈ ow, i ≠ f'.s) ∧ (∀ f' ∈ es, f'.s = i → f' = f) ∧ (∀ f' ∈ es, f'.a = f.a → f' = f) ∧ True ∧ (∀ v w, R i v w) ∧ (∃ e ∈ o.after, Region.binds .any e = true ∧ e.on = f.a) ∧
  ∀ x w g, x f.a = .pointer (some ⟨g, 0, none⟩) → Blk w g f.T f.Z → (∀ e ∈ o.after, Region.binds .any e = true → R e.on (x e.on) w) →
    ∃ us, (∀ w', Below B w w' → f.PS (setL f.Z 0 us) w') ∧ ∀ K' : Act → World → Prop, Shut (∀ v, K' ((fr x).put o.dst v) (setFrom w g 0 us)) →
      if Region.wanted o (yielded ops (fr x).tmps) = true then Oper.wp P o (fr x) w K' Q else K' ((fr x).put o.dst undef) w
def OwnStepB (i : Nat) (o : Oper) : Prop := ∃ f ∈ ow, i = f.s ∧ (∀ f' ∈ es, i ≠ f'.a ∧ i ≠ f'.s) ∧ (∀ f' ∈ ow, f'.s = i → f' = f) ∧ True ∧ (∀ v w, R i v w) ∧
  ∀ x w, Blk w f.g f.T f.Z → (∀ e ∈ o.after, Region.binds .any e = true → R e.on (x e.on) w) →
    ∃ us, (∀ w', Below B w w' → f.PS (setL f.Z f.o us) w') ∧ ∀ K' : Act → World → Prop, Shut (∀ v, K' ((fr x).put o.dst v) (setFrom w f.g f.o us)) →
      if Region.wanted o (yielded ops (fr x).tmps) = true then Oper.wp P o (fr x) w K' Q else K' ((fr x).put o.dst undef) w
end
section
variable {P : Program} {ops : Array Oper} {Q : Exit → Act → World → Prop} {fr : (Nat → Value) → Act} {R : Nat → Value → World → Prop} {es : List FltB} {ow : List OwnB} {B : Nat}
theorem wp_region_own {id : Nat} {w : World} {x0 : Nat → Value} (hm : P.follows .mixedOrders = true)
    (hput : ∀ i o, ops[i]? = some o → ∀ x v, (fr x).put o.dst v = fr (upd x i v))
    (hac : ∀ i o, ops[i]? = some o → ∀ e ∈ o.after, Region.binds .any e = true → e.on < i)
    (hR : ∀ i v w w', R i v w → Below B w w' → R i v w')
    (hPS : ∀ f ∈ es, ∀ c w w', f.PS c w → Below B w w' → f.PS c w')
    (hPO : ∀ f ∈ ow, ∀ c w w', f.PS c w → Below B w w' → f.PS c w')
    (hfs : ∀ f ∈ es, f.a < ops.size ∧ f.s < ops.size)
    (hB : B ≤ w.heap.size)
    (hO : ∀ f ∈ ow, Blk w f.g f.T f.Z ∧ B ≤ f.g)
    (hOd : ∀ f ∈ ow, ∀ f' ∈ ow, f.g = f'.g → f = f')
    (hstep : ∀ i o, ops[i]? = some o → ValStepB P ops Q fr R es ow B w i o ∨ AllocStepB P ops Q fr R es ow i o ∨ StoreStepB P ops Q fr R es ow B i o ∨ OwnStepB P ops Q fr R es ow B i o)
    (hend : ∀ x w', Below B w w' → Below B w w' → w.heap.size ≤ w'.heap.size → (∀ f ∈ ow, ∃ c, Blk w' f.g f.T c ∧ (ops.size ≤ f.s → c = f.Z) ∧ (f.s < ops.size → f.PS c w')) → (∀ i, i < ops.size → R i (x i) w') → (∀ f ∈ es, ∃ g c, x f.a = .pointer (some ⟨g, 0, none⟩) ∧ w.heap.size ≤ g ∧ Blk w' g f.T c ∧ f.PS c w') → (∀ f ∈ es, ∀ f' ∈ es, f.a ≠ f'.a → x f.a ≠ x f'.a) → Q .normal (fr x) w') :
    (Code.region id ops true).wp P Q (fr x0) w := by
  refine wp_region_any hm (wpAny_inv (fun L a w' => w.heap.size ≤ w'.heap.size ∧ LinB ops fr R es ow B w L a w') ?_ ?_ _ _ _ _ (by simp) ?_ ?_)
  · rintro L a w1 i hs hi ⟨hsz, x, rfl, ⟨hkW, hb⟩, hr, hcl, hf, hd, how⟩
    obtain ⟨hun, o, ho, hall⟩ := mem_ready.1 hi
    have hlt : i < L.size := by
      rcases Nat.lt_or_ge i L.size with h | h
      · exact h
      · rw [Array.getD_eq_getD_getElem?, Array.getElem?_eq_none h] at hun; cases hun
    have hunf : L.getD i false = false := by
      rw [Array.getD_eq_getD_getElem?, Array.getElem?_eq_getElem hlt] at hun ⊢; exact hun
    have hdep : ∀ e ∈ o.after, Region.binds .any e = true → R e.on (x e.on) w1 := fun e he hbd => hr _ (hall e he hbd)
    have hcl' : ∀ i' o', ops[i']? = some o' → (L.setIfInBounds i true).getD i' false = true → ∀ e ∈ o'.after, Region.binds .any e = true → (L.setIfInBounds i true).getD e.on false = true := by
      intro i' o' ho' hl e he hbd
      rw [getD_set hlt] at hl ⊢
      by_cases h : i' = i
      · subst h; rw [ho] at ho'; injection ho' with ho'; subst ho'
        rw [hall e he hbd]; simp
      · have : L.getD i' false = true := by simpa [h] using hl
        rw [hcl i' o' ho' this e he hbd]; simp
    refine wpOp_step ho fun K' hK => ?_
    have hsno : ∀ f ∈ ow, (∀ o', ops[f.s]? = some o' → ∃ e ∈ o'.after, Region.binds .any e = true ∧ e.on = i) → Blk w1 f.g f.T f.Z := by
      intro f hfo hdd
      obtain ⟨c, c1, c2, _⟩ := how f hfo
      have : L.getD f.s false = false := by
        cases h : L.getD f.s false
        · rfl
        · exfalso
          have hlt2 : f.s < ops.size := by
            rcases Nat.lt_or_ge f.s L.size with h2 | h2
            · omega
            · rw [Array.getD_eq_getD_getElem?, Array.getElem?_eq_none h2] at h; cases h
          obtain ⟨e, he, hbd, hea⟩ := hdd _ (Array.getElem?_eq_getElem hlt2)
          have := hcl f.s _ (Array.getElem?_eq_getElem hlt2) h e he hbd
          rw [hea, hunf] at this; cases this
      rw [← c2 this]; exact c1
    have howk : ∀ w', Below B w1 w' → (∀ g t c, Blk w1 g t c → (∃ f ∈ ow, f.g = g) → Blk w' g t c) → (∀ f ∈ ow, i ≠ f.s) → ∀ f ∈ ow, ∃ c, Blk w' f.g f.T c ∧ ((L.setIfInBounds i true).getD f.s false = false → c = f.Z) ∧ ((L.setIfInBounds i true).getD f.s false = true → f.PS c w') := by
      intro w' hkp hbl hne f hfo
      obtain ⟨c, c1, c2, c3⟩ := how f hfo
      have n2 := hne f hfo
      refine ⟨c, hbl _ _ _ c1 ⟨f, hfo, rfl⟩, fun h => c2 ?_, fun h => hPO f hfo _ _ _ (c3 ?_) hkp⟩
      · rw [getD_set hlt] at h; simpa [Ne.symm n2] using h
      · rw [getD_set hlt] at h; simpa [Ne.symm n2] using h
    rcases hstep i o ho with ⟨hno, hnow, hv⟩ | ⟨f, hf1, rfl, hnos, hnow, huniq, hRi, hv⟩ | ⟨f, hf1, rfl, hnoa, hnow, huniq, huniqa, hT, hRi, ⟨e, he, hbd, hea⟩, hv⟩ | ⟨f, hf1, rfl, hnoe, huniq, hT, hRi, hv⟩
    · refine hv x w1 hkW hsno hdep K' (fun v w' hRv hbw => hK _ _ ?_)
      have hkp : Below B w1 w' := (hbw.mono (Nat.le_trans hB hsz))
      refine ⟨Nat.le_trans hsz hbw.size, upd x i v, hput i o ho x v, ⟨hkW.trans hkp, hb.trans (hbw.mono (Nat.le_trans hB hsz))⟩, fun j hj => ?_, hcl', fun f hfe hfa => ?_, fun f hfe f' hfe' hne h1 h2 => ?_, howk w' hkp (fun g t c h _ => h.below hbw h.lt) hnow⟩
      · by_cases h : j = i
        · subst h; rw [upd_same]; exact hRv
        · rw [upd_ne _ _ h]; rw [getD_set hlt] at hj; exact hR _ _ _ _ (hr j (by simpa [h] using hj)) hkp
      · rw [getD_set hlt] at hfa
        have n1 := (hno f hfe).1
        have n2 := (hno f hfe).2
        rw [upd_ne _ _ (Ne.symm n1)]
        obtain ⟨g, c, e1, e2, e3, e4, e5⟩ := hf f hfe (by simpa [Ne.symm n1] using hfa)
        refine ⟨g, c, e1, e2, e3.below hbw e3.lt, fun h => e4 ?_, fun h => hPS f hfe _ _ _ (e5 ?_) hkp⟩
        · rw [getD_set hlt] at h; simpa [Ne.symm n2] using h
        · rw [getD_set hlt] at h; simpa [Ne.symm n2] using h
      · rw [getD_set hlt] at h1 h2
        have n1 := (hno f hfe).1
        have n2 := (hno f' hfe').1
        rw [upd_ne _ _ (Ne.symm n1), upd_ne _ _ (Ne.symm n2)]
        exact hd f hfe f' hfe' hne (by simpa [Ne.symm n1] using h1) (by simpa [Ne.symm n2] using h2)
    · refine hv x w1 K' (hK _ _ ?_)
      have hkp : Below B w1 (w1.alloc (.cells f.Z f.T)) := ((Below.refl B w1).alloc (Nat.le_trans hB hsz) _)
      have hsl : L.getD f.s false = false := by
        cases h : L.getD f.s false
        · rfl
        · exfalso
          obtain ⟨o', ho'⟩ : ∃ o', ops[f.s]? = some o' := ⟨_, Array.getElem?_eq_getElem (hfs f hf1).2⟩
          rcases hstep f.s o' ho' with ⟨hno, _⟩ | ⟨f2, hf2, e2, hnos2, _⟩ | ⟨f2, hf2, e2, _, _, hu2, _, _, _, ⟨e, he, hbd, hea⟩, _⟩ | ⟨f2, hf2, e2, hno2, _⟩
          · exact (hno f hf1).2 rfl
          · exact hnos2 f hf1 rfl
          · have := hu2 f hf1 rfl
            subst this
            have := hcl f.s o' ho' h e he hbd
            rw [hea] at this
            rw [this] at hunf; cases hunf
          · exact (hno2 f hf1).2 rfl
      refine ⟨by simp; omega, upd x f.a _, hput f.a o ho x _, ⟨hkW.alloc (Nat.le_trans hB hsz) _, hb.alloc (Nat.le_trans hB hsz) _⟩, fun j hj => ?_, hcl', fun f' hfe hfa => ?_, fun f1 hfe f2 hfe' hne h1 h2 => ?_, howk _ hkp (fun g t c h _ => h.alloc _) hnow⟩
      · by_cases h : j = f.a
        · subst h; exact hRi _ _
        · rw [upd_ne _ _ h]; rw [getD_set hlt] at hj; exact hR _ _ _ _ (hr j (by simpa [h] using hj)) hkp
      · by_cases h : f'.a = f.a
        · have := huniq f' hfe h
          subst this
          rw [upd_same]
          refine ⟨_, _, rfl, hsz, Blk.new _ _ _, fun _ => rfl, fun h' => ?_⟩
          rw [getD_set hlt, hsl] at h'
          have : f'.s = f'.a := by simpa using h'
          exact absurd this.symm (hnos f' hfe)
        · rw [upd_ne _ _ h]
          rw [getD_set hlt] at hfa
          have n2 := hnos f' hfe
          obtain ⟨g, c, e1, e2, e3, e4, e5⟩ := hf f' hfe (by simpa [h] using hfa)
          refine ⟨g, c, e1, e2, e3.alloc _, fun h => e4 ?_, fun h => hPS f' hfe _ _ _ (e5 ?_) hkp⟩
          · rw [getD_set hlt] at h; simpa [Ne.symm n2] using h
          · rw [getD_set hlt] at h; simpa [Ne.symm n2] using h
      · rw [getD_set hlt] at h1 h2
        have fresh : ∀ f3 ∈ es, f3.a ≠ f.a → L.getD f3.a false = true → x f3.a ≠ .pointer (some ⟨w1.heap.size, 0, none⟩) := by
          intro f3 h3 hne3 hl3 heq
          obtain ⟨g, c, e1, e2, e3, _⟩ := hf f3 h3 hl3
          rw [e1] at heq
          have hg := e3.lt
          injection heq with heq; injection heq with heq; injection heq with heq
          omega
        by_cases c1 : f1.a = f.a
        · have c2 : f2.a ≠ f.a := fun h => hne (c1.trans h.symm)
          rw [c1, upd_same, upd_ne _ _ c2]
          exact (fresh f2 hfe' c2 (by simpa [c2] using h2)).symm
        · rw [upd_ne _ _ c1]
          by_cases c2 : f2.a = f.a
          · rw [c2, upd_same]; exact fresh f1 hfe c1 (by simpa [c1] using h1)
          · rw [upd_ne _ _ c2]; exact hd f1 hfe f2 hfe' hne (by simpa [c1] using h1) (by simpa [c2] using h2)
    · have hal : L.getD f.a false = true := by rw [← hea]; exact hall e he hbd
      obtain ⟨g, c, e1, e2, e3, e4, e5⟩ := hf f hf1 hal
      have hc := e4 hunf
      subst hc
      obtain ⟨us, hus, hv⟩ := hv x w1 g e1 e3 hdep
      refine hv K' (fun v => hK _ _ ?_)
      have hkp : Below B w1 (setFrom w1 g 0 us) := setFrom_below (Nat.le_trans hB e2) us 0 w1 (Below.refl _ _)
      have hnb : ∀ f3 ∈ es, f3.a ≠ f.s := fun f3 h3 h => hnoa f3 h3 h.symm
      refine ⟨Nat.le_trans hsz (Nat.le_of_eq (setFrom_size us 0 w1).symm), upd x f.s v, hput f.s o ho x v, ⟨hkW.trans hkp, setFrom_below (Nat.le_trans hB e2) us 0 w1 hb⟩, fun j hj => ?_, hcl', fun f' hfe hfa => ?_, fun f1 hfe f2 hfe' hne h1 h2 => ?_, howk _ hkp (fun g2 t c h hex => setFrom_far (by obtain ⟨f2, h2, rfl⟩ := hex; have := (hO f2 h2).1.lt; omega) us 0 w1 h) hnow⟩
      · by_cases h : j = f.s
        · subst h; exact hRi _ _
        · rw [upd_ne _ _ h]; rw [getD_set hlt] at hj; exact hR _ _ _ _ (hr j (by simpa [h] using hj)) hkp
      · rw [upd_ne _ _ (hnb f' hfe)]
        rw [getD_set hlt] at hfa
        by_cases h : f'.a = f.a
        · have := huniqa f' hfe h
          subst this
          refine ⟨g, _, e1, e2, setFrom_blk us 0 w1 _ e3, fun h' => ?_, fun _ => hus _ hkp⟩
          rw [getD_set hlt] at h'; simp at h'
        · have n2 : f'.s ≠ f.s := fun h2 => h (by rw [huniq f' hfe h2])
          obtain ⟨g', c', d1, d2, d3, d4, d5⟩ := hf f' hfe (by simpa [hnb f' hfe] using hfa)
          have hgg : g' ≠ g := by
            rintro rfl
            exact hd f' hfe f hf1 h (by simpa [hnb f' hfe] using hfa) hal (d1.trans e1.symm)
          refine ⟨g', c', d1, d2, setFrom_far hgg us 0 w1 d3, fun h => d4 ?_, fun h => hPS f' hfe _ _ _ (d5 ?_) hkp⟩
          · rw [getD_set hlt] at h; simpa [n2] using h
          · rw [getD_set hlt] at h; simpa [n2] using h
      · rw [getD_set hlt] at h1 h2
        rw [upd_ne _ _ (hnb f1 hfe), upd_ne _ _ (hnb f2 hfe')]
        exact hd f1 hfe f2 hfe' hne (by simpa [hnb f1 hfe] using h1) (by simpa [hnb f2 hfe'] using h2)
    · obtain ⟨c, c1, c2, _⟩ := how f hf1
      have hc := c2 hunf
      subst hc
      obtain ⟨us, hus, hv⟩ := hv x w1 c1 hdep
      refine hv K' (fun v => hK _ _ ?_)
      have hkp : Below B w1 (setFrom w1 f.g f.o us) := setFrom_below (hO f hf1).2 us f.o w1 (Below.refl _ _)
      have hna : ∀ f3 ∈ es, f3.a ≠ f.s := fun f3 h3 h => (hnoe f3 h3).1 h.symm
      have hns : ∀ f3 ∈ es, f3.s ≠ f.s := fun f3 h3 h => (hnoe f3 h3).2 h.symm
      have hgl := (hO f hf1).1.lt
      refine ⟨Nat.le_trans hsz (Nat.le_of_eq (setFrom_size us f.o w1).symm), upd x f.s v, hput f.s o ho x v, ⟨hkW.trans hkp, setFrom_below (hO f hf1).2 us f.o w1 hb⟩, fun j hj => ?_, hcl', fun f' hfe hfa => ?_, fun f1 hfe f2 hfe' hne h1 h2 => ?_, fun f' hfo => ?_⟩
      · by_cases h : j = f.s
        · subst h; exact hRi _ _
        · rw [upd_ne _ _ h]; rw [getD_set hlt] at hj; exact hR _ _ _ _ (hr j (by simpa [h] using hj)) hkp
      · rw [upd_ne _ _ (hna f' hfe)]
        rw [getD_set hlt] at hfa
        have n2 := hns f' hfe
        obtain ⟨g', c', d1, d2, d3, d4, d5⟩ := hf f' hfe (by simpa [hna f' hfe] using hfa)
        refine ⟨g', c', d1, d2, setFrom_far (by omega) us f.o w1 d3, fun h => d4 ?_, fun h => hPS f' hfe _ _ _ (d5 ?_) hkp⟩
        · rw [getD_set hlt] at h; simpa [n2] using h
        · rw [getD_set hlt] at h; simpa [n2] using h
      · rw [getD_set hlt] at h1 h2
        rw [upd_ne _ _ (hna f1 hfe), upd_ne _ _ (hna f2 hfe')]
        exact hd f1 hfe f2 hfe' hne (by simpa [hna f1 hfe] using h1) (by simpa [hna f2 hfe'] using h2)
      · by_cases h : f'.s = f.s
        · have := huniq f' hfo h
          subst this
          refine ⟨_, setFrom_blk us f'.o w1 _ c1, fun h' => ?_, fun _ => hus _ hkp⟩
          rw [getD_set hlt] at h'; simp at h'
        · obtain ⟨c', d3, d4, d5⟩ := how f' hfo
          have hgg : f'.g ≠ f.g := fun h2 => h (by rw [hOd f' hfo f hf1 h2])
          refine ⟨c', setFrom_far hgg us f.o w1 d3, fun h2 => d4 ?_, fun h2 => hPO f' hfo _ _ _ (d5 ?_) hkp⟩
          · rw [getD_set hlt] at h2; simpa [h] using h2
          · rw [getD_set hlt] at h2; simpa [h] using h2
  · rintro L a w1 hs hr0 ⟨hsz, x, rfl, ⟨hkW, hb⟩, hr, hcl, hf, hd, how⟩
    have hallL : ∀ i, i < ops.size → L.getD i false = true := by
      intro i
      induction i using Nat.strongRecOn with
      | ind i ih =>
        intro hi
        cases h : L.getD i false
        · exfalso
          have : i ∈ Region.ready .any ops L := by
            refine mem_ready.2 ⟨?_, ops[i], Array.getElem?_eq_getElem hi, fun e he hbd => ?_⟩
            · rw [Array.getD_eq_getD_getElem?, Array.getElem?_eq_getElem (by omega)] at h ⊢; exact h
            · have h1 := hac i _ (Array.getElem?_eq_getElem hi) e he hbd
              exact ih e.on h1 (by omega)
          rw [hr0] at this; cases this
        · rfl
    refine hend x w1 hkW hb hsz (fun f hfo => ?_) (fun i hi => hr i (hallL i hi)) (fun f hfe => ?_) (fun f hfe f' hfe' hne => hd f hfe f' hfe' hne (hallL _ (hfs f hfe).1) (hallL _ (hfs f' hfe').1))
    · obtain ⟨c, c1, c2, c3⟩ := how f hfo
      refine ⟨c, c1, fun h => c2 ?_, fun h => c3 (hallL _ h)⟩
      rw [Array.getD_eq_getD_getElem?, Array.getElem?_eq_none (by omega)]; rfl
    obtain ⟨g, c, e1, e2, e3, _, e5⟩ := hf f hfe (hallL _ (hfs f hfe).1)
    exact ⟨g, c, e1, e2, e3, e5 (hallL _ (hfs f hfe).2)⟩
  · simp
  · have hz : ∀ j, (Array.replicate ops.size false).getD j false = false := by
      intro j; rw [Array.getD_eq_getD_getElem?, Array.getElem?_replicate]; split <;> rfl
    refine ⟨Nat.le_refl _, x0, rfl, ⟨(Below.refl B w).drew, (Below.refl B w).drew⟩, fun i h => ?_, fun i o _ h => ?_, fun f _ h => ?_, fun f _ f' _ _ h => ?_, fun f hfo => ⟨_, (hO f hfo).1.drew, fun _ => rfl, fun h => ?_⟩⟩ <;> rw [hz] at h <;> cases h
end

theorem ownDistB {ow : List OwnB} (h : ow.Pairwise (fun f f' => f.g ≠ f'.g)) : ∀ f ∈ ow, ∀ f' ∈ ow, f.g = f'.g → f = f' := by
  induction ow with
  | nil => intro f hf; cases hf
  | cons a l ih =>
    obtain ⟨h1, h2⟩ := List.pairwise_cons.1 h
    intro f hf f' hf' he
    rcases List.mem_cons.1 hf with h3 | h3
    · rcases List.mem_cons.1 hf' with h4 | h4
      · rw [h3, h4]
      · exact absurd (h3 ▸ he) (h1 _ h4)
    · rcases List.mem_cons.1 hf' with h4 | h4
      · exact absurd (h4 ▸ he).symm (h1 _ h3)
      · exact ih h2 f h3 f' h4 he
def AllBw (B : Nat) : List (Value → World → Prop) → Prop
  | [] => True
  | p :: l => (∀ v w w', p v w → Below B w w' → p v w') ∧ AllBw B l
theorem AllBw.get {B : Nat} : ∀ (l : List (Value → World → Prop)), AllBw B l → ∀ i v w w', l.getD i (fun _ _ => True) v w → Below B w w' → l.getD i (fun _ _ => True) v w' := by
  intro l
  induction l with
  | nil => intro _ i v w w' _ _; simp
  | cons p l ih =>
    intro h i v w w' hp hk
    cases i with
    | zero => exact h.1 v w w' hp hk
    | succ i => exact ih h.2 i v w w' hp hk
theorem bEq {B : Nat} (u : Value) : ∀ v w w', PEq u v w → Below B w w' → PEq u v w' := fun _ _ _ h _ => h
theorem bAny {B : Nat} : ∀ v w w', PAny v w → Below B w w' → PAny v w' := fun _ _ _ h _ => h
end Go.Proofs.YtoiijifnfdgfpaaGreatDoor

/- Plain laws of fractions: order, roots, grids. -/
namespace Bn
theorem wd_ext {l l' : List Nat} (hn : l.length = l'.length) (h : ∀ i, i < l.length → wd l i = wd l' i) : l = l' := by
  refine List.ext_getElem hn fun i h1 h2 => ?_
  have := h i h1
  rw [wd_get h1, wd_get h2] at this
  exact this
theorem wd_ne {l l' : List Nat} (hn : l.length = l'.length) (h : l ≠ l') : ∃ i, i < l.length ∧ wd l i ≠ wd l' i := by
  apply Classical.byContradiction
  intro hc
  apply h
  refine wd_ext hn fun i hi => ?_
  apply Classical.byContradiction
  intro e
  exact hc ⟨i, hi, e⟩
end Bn

/- Walks: fields that differ. -/
namespace Go.Proofs.YtoiijifnfdgfpaaGreatDoor
open Go Go.RowKit Bn
attribute [local go_sem ↓] Go.wp_at_zero Go.wp_at_succ
theorem b_words_ne (w : World) (A n c l) (wa : Wd w A n c l) (A' n' c' l') (wb : Wd w A' n' c' l') (hne : l ≠ l') (hn : n ≤ 1000000000) (hn' : n' ≤ 1000000000) :
  Calls Tryz.prog 80 #[.slice A n c, .slice A' n' c'] w (RetV w (.bool false)) := by
 by_cases hnn : n' = n
 ·subst hnn
  obtain ⟨j, hj, hjn⟩ := wd_ne (by rw [← wa.2.1, ← wb.2.1]) hne
  rw [← wa.2.1] at hj
  have HA := Lib.hid wa
  have HB := Lib.hid wb
  have HJ := Lib.hid hjn
  clear wa wb hne hjn
  go_enter Tryz.func80, Tryz.ntmps80
  go_wp2_with fail
  go_loopw [5] (fun iv wr => ∃ (i q : Nat), i ≤ j ∧ iv = .int .i64 (i : Nat) ∧ wr = w.drewN q) (fun iv _ => n' - (intOf iv).toNat)
  case atStart => exact ⟨0, 0, Nat.zero_le _, rfl, rfl⟩
  case round =>
   obtain ⟨i, q, hi, rfl, rfl⟩ := hrel
   have hlt : i < n' := by omega
   obtain ⟨g, o, rfl, hc1⟩ := HA.out.at_ (by omega)
   obtain ⟨g', o', rfl, hc2⟩ := HB.out.at_ (by omega)
   have h1 := hc1 i hlt
   have h2 := hc2 i hlt
   have hi0 : (0 : Int) ≤ (i : Int) := by omega
   have hi1 : (i : Int) < (n' : Int) := by omega
   have HIJ := Lib.hid (show i = j → wd l i ≠ wd l' i by rintro rfl; exact HJ.out)
   generalize wd l i = x at h1 HIJ
   generalize wd l' i = y at h2 HIJ
   clear hc1 hc2
   by_cases hxy : x = y
   ·subst hxy
    have hij : i < j := by
     rcases Nat.lt_or_ge i j with h | h
     ·exact h
     ·exact absurd rfl (HIJ.out (by omega))
    go_wp2_with fail
    go_quiet (fail)
    go_wp2
    go_roundw
    case rel => exact ⟨i + 1, _, by omega, by go_num, rfl⟩
    case measure => simp [intOf]; omega
   ·have hxy2 : ¬ (x : Int) = (y : Int) := by omega
    go_wp2_with fail
    go_quiet (fail)
    go_wp2
    go_ret
    exact retB rfl (by repeat (first | exact Below.refl _ _ | refine below_drewN ?_ _))
 ·have e1 : ((n : Int) == (n' : Int)) = false := by simp; omega
  have e2 : ¬ (n : Int) = (n' : Int) := by omega
  clear wa wb
  go_enter Tryz.func80, Tryz.ntmps80
  go_wp2_with fail
  go_ret
  exact retB rfl (brefl w)
theorem b_rat_ne1 (w : World) (b : Bool) (A : Option Addr) (n c : Nat) (D : Option Addr) (m e : Nat) (r : RD) (k : Nat) (h : QD w b A n c D m e r k) (b' : Bool) (A' : Option Addr) (n' c' : Nat) (D' : Option Addr) (m' e' : Nat) (r' : RD) (k' : Nat) (h' : QD w b' A' n' c' D' m' e' r' k') (hne : b ≠ b') (hk : k ≤ 1000000) (hk' : k' ≤ 1000000) :
  Calls Tryz.prog 36 #[.agg #[.bool b, .slice A n c, .slice D m e], .agg #[.bool b', .slice A' n' c', .slice D' m' e']] w (RetV w (.bool false)) := by
 obtain ⟨e1, ha, hd, hk1, hk2⟩ := h
 obtain ⟨e1', ha', hd', hk1', hk2'⟩ := h'
 have HE : (b == b') = false := by simpa using hne
 have HE2 : ¬ b = b' := hne
 clear ha hd ha' hd' e1 e1'
 go_enter Tryz.func36, Tryz.ntmps36
 go_wp2_with fail
 go_ret
 exact retB rfl (((brefl w).alloc (Nat.le_refl _) _).alloc (by simp) _)
theorem b_rat_ne2 (w : World) (b : Bool) (A : Option Addr) (n c : Nat) (D : Option Addr) (m e : Nat) (r : RD) (k : Nat) (h : QD w b A n c D m e r k) (b' : Bool) (A' : Option Addr) (n' c' : Nat) (D' : Option Addr) (m' e' : Nat) (r' : RD) (k' : Nat) (h' : QD w b' A' n' c' D' m' e' r' k') (hbb : b = b') (hne : r.num ≠ r'.num) (hk : k ≤ 1000000) (hk' : k' ≤ 1000000) :
  Calls Tryz.prog 36 #[.agg #[.bool b, .slice A n c, .slice D m e], .agg #[.bool b', .slice A' n' c', .slice D' m' e']] w (RetV w (.bool false)) := by
 obtain ⟨e1, ha, hd, hk1, hk2⟩ := h
 obtain ⟨e1', ha', hd', hk1', hk2'⟩ := h'
 subst hbb
 have HE : (b == b) = true := by simp
 have HA := Lib.hid (And.intro ha ha')
 have HD := Lib.hid (And.intro hd hd')
 have HN := Lib.hid hne
 clear ha ha' hd hd' hne e1 e1'
 go_enter Tryz.func36, Tryz.ntmps36
 go_wp2_with fail
 (with_reducible refine (b_words_ne _ A n c r.num ?_ A' n' c' r'.num ?_ ?_ ?_ ?_).mono ?_); (exact HA.out.1.keep (((Kp.refl _).alloc _).alloc _)); (exact HA.out.2.keep (((Kp.refl _).alloc _).alloc _)); (exact HN.out); (omega); (omega); rintro e w1 ⟨rfl, hb⟩
 have q1 : Below w.heap.size w w1 := (((Below.refl _ _).alloc (Nat.le_refl _) _).alloc (by simp) _).trans (hb.mono (by simp <;> omega))
 have x0 : Blk w1 w.heap.size 72 #[.bool b, .slice A n c, .slice D m e] := ((blkAt w _ _ rfl).alloc _).below hb (by simp <;> omega)
 have x1 : Blk w1 (w.heap.size + 1) 72 #[.bool b, .slice A' n' c', .slice D' m' e'] := (blkAt _ _ _ (by simp)).below hb (by simp)
 have c02 : w1.cell? ⟨w.heap.size, 2, none⟩ = some (.slice D m e) := x0.cell 2
 have c12 : w1.cell? ⟨w.heap.size + 1, 2, none⟩ = some (.slice D' m' e') := x1.cell 2
 clear hb
 go_wp2_with fail
 go_ret
 exact ⟨rfl, q1⟩
theorem b_rat_ne3 (w : World) (b : Bool) (A : Option Addr) (n c : Nat) (D : Option Addr) (m e : Nat) (r : RD) (k : Nat) (h : QD w b A n c D m e r k) (b' : Bool) (A' : Option Addr) (n' c' : Nat) (D' : Option Addr) (m' e' : Nat) (r' : RD) (k' : Nat) (h' : QD w b' A' n' c' D' m' e' r' k') (hbb : b = b') (hnn : r.num = r'.num) (hne : r.den ≠ r'.den) (hk : k ≤ 1000000) (hk' : k' ≤ 1000000) :
  Calls Tryz.prog 36 #[.agg #[.bool b, .slice A n c, .slice D m e], .agg #[.bool b', .slice A' n' c', .slice D' m' e']] w (RetV w (.bool false)) := by
 obtain ⟨e1, ha, hd, hk1, hk2⟩ := h
 obtain ⟨e1', ha', hd', hk1', hk2'⟩ := h'
 rw [← hnn] at ha'
 subst hbb
 have HE : (b == b) = true := by simp
 have HA := Lib.hid (And.intro ha ha')
 have HD := Lib.hid (And.intro hd hd')
 have HN := Lib.hid hne
 clear ha ha' hd hd' hne e1 e1'
 go_enter Tryz.func36, Tryz.ntmps36
 go_wp2_with fail
 (with_reducible refine (b_words _ A n c r.num ?_ A' n' c' ?_ ?_).mono ?_); (exact HA.out.1.keep (((Kp.refl _).alloc _).alloc _)); (exact HA.out.2.keep (((Kp.refl _).alloc _).alloc _)); (omega); rintro e w1 ⟨rfl, hb⟩
 have q1 : Below w.heap.size w w1 := (((Below.refl _ _).alloc (Nat.le_refl _) _).alloc (by simp) _).trans (hb.mono (by simp <;> omega))
 have x0 : Blk w1 w.heap.size 72 #[.bool b, .slice A n c, .slice D m e] := ((blkAt w _ _ rfl).alloc _).below hb (by simp <;> omega)
 have x1 : Blk w1 (w.heap.size + 1) 72 #[.bool b, .slice A' n' c', .slice D' m' e'] := (blkAt _ _ _ (by simp)).below hb (by simp)
 have c02 : w1.cell? ⟨w.heap.size, 2, none⟩ = some (.slice D m e) := x0.cell 2
 have c12 : w1.cell? ⟨w.heap.size + 1, 2, none⟩ = some (.slice D' m' e') := x1.cell 2
 clear hb
 go_wp2_with fail
 (with_reducible refine (b_words_ne _ D m e r.den ?_ D' m' e' r'.den ?_ ?_ ?_ ?_).mono ?_); (exact HD.out.1.belw q1); (exact HD.out.2.belw q1); (exact HN.out); (omega); (omega); rintro e w2 ⟨rfl, hb2⟩
 go_wp2_with fail
 go_ret
 exact ⟨rfl, q1.trans (hb2.mono q1.size)⟩
end Go.Proofs.YtoiijifnfdgfpaaGreatDoor

/- Walks: linkworkbase.Rat, Body and Linkage, of any two. -/
namespace Go.Proofs.YtoiijifnfdgfpaaGreatDoor
open Go Go.RowKit Bn
attribute [local go_sem ↓] Go.wp_at_zero Go.wp_at_succ
theorem b_rat_eq (w : World) (b : Bool) (A : Option Addr) (n c : Nat) (D : Option Addr) (m e : Nat) (b' : Bool) (A' : Option Addr) (n' c' : Nat) (D' : Option Addr) (m' e' : Nat) (r : RD) (k k' : Nat) (h : QD w b A n c D m e r k) (h' : QD w b' A' n' c' D' m' e' r k') (hk : k ≤ 1000000) :
  Calls Tryz.prog 36 #[.agg #[.bool b, .slice A n c, .slice D m e], .agg #[.bool b', .slice A' n' c', .slice D' m' e']] w (RetV w (.bool true)) := by
 obtain ⟨e1, ha, hd, hk1, hk2⟩ := h
 obtain ⟨e1', ha', hd', _, _⟩ := h'
 subst e1 e1'
 have HE : (r.neg == r.neg) = true := by simp
 have HA := Lib.hid (And.intro ha ha')
 have HD := Lib.hid (And.intro hd hd')
 clear ha ha' hd hd'
 go_enter Tryz.func36, Tryz.ntmps36
 go_wp2_with fail
 (with_reducible refine (b_words _ A n c r.num ?_ A' n' c' ?_ ?_).mono ?_); (exact HA.out.1.keep (((Kp.refl _).alloc _).alloc _)); (exact HA.out.2.keep (((Kp.refl _).alloc _).alloc _)); (omega); rintro e w1 ⟨rfl, hb⟩
 have q1 : Below w.heap.size w w1 := (((Below.refl _ _).alloc (Nat.le_refl _) _).alloc (by simp) _).trans (hb.mono (by simp <;> omega))
 have x0 : Blk w1 w.heap.size 72 #[.bool r.neg, .slice A n c, .slice D m e] := ((blkAt w _ _ rfl).alloc _).below hb (by simp <;> omega)
 have x1 : Blk w1 (w.heap.size + 1) 72 #[.bool r.neg, .slice A' n' c', .slice D' m' e'] := (blkAt _ _ _ (by simp)).below hb (by simp)
 have c02 : w1.cell? ⟨w.heap.size, 2, none⟩ = some (.slice D m e) := x0.cell 2
 have c12 : w1.cell? ⟨w.heap.size + 1, 2, none⟩ = some (.slice D' m' e') := x1.cell 2
 clear hb
 go_wp2_with fail
 (with_reducible refine (b_words _ D m e r.den ?_ D' m' e' ?_ ?_).mono ?_); (exact HD.out.1.belw q1); (exact HD.out.2.belw q1); (omega); rintro e w2 ⟨rfl, hb2⟩
 go_wp2_with fail
 go_ret
 exact ⟨rfl, q1.trans (hb2.mono q1.size)⟩
theorem b_rat_d (w : World) (b : Bool) (A : Option Addr) (n c : Nat) (D : Option Addr) (m e : Nat) (b' : Bool) (A' : Option Addr) (n' c' : Nat) (D' : Option Addr) (m' e' : Nat) (r r' : RD) (k k' : Nat) (h : QD w b A n c D m e r k) (h' : QD w b' A' n' c' D' m' e' r' k') (hk : k ≤ 1000000) (hk' : k' ≤ 1000000) (v : Bool) (hv : v = true ↔ r = r') :
    Calls Tryz.prog 36 #[.agg #[.bool b, .slice A n c, .slice D m e], .agg #[.bool b', .slice A' n' c', .slice D' m' e']] w (RetV w (.bool v)) := by
  by_cases e1 : r = r'
  · subst e1
    rw [hv.2 rfl]
    exact b_rat_eq w b A n c D m e b' A' n' c' D' m' e' r k k' h h' hk
  · have hvf : v = false := by cases v; rfl; exact absurd (hv.1 rfl) e1
    subst hvf
    by_cases eb : b = b'
    · by_cases en : r.num = r'.num
      · refine b_rat_ne3 w b A n c D m e r k h b' A' n' c' D' m' e' r' k' h' eb en (fun ed => e1 ?_) hk hk'
        have hn : r.neg = r'.neg := by rw [h.1, h'.1, eb]
        obtain ⟨a1, a2, a3⟩ := r
        obtain ⟨b1, b2, b3⟩ := r'
        simp only at hn en ed
        rw [hn, en, ed]
      · exact b_rat_ne2 w b A n c D m e r k h b' A' n' c' D' m' e' r' k' h' eb en hk hk'
    · exact b_rat_ne1 w b A n c D m e r k h b' A' n' c' D' m' e' r' k' h' eb hk hk'
def Cells7 (w : World) (g o : Nat) (s : Value) (b1 : Bool) (A1 : Option Addr) (n1 c1 : Nat) (D1 : Option Addr) (m1 e1 : Nat) (b2 : Bool) (A2 : Option Addr) (n2 c2 : Nat) (D2 : Option Addr) (m2 e2 : Nat) : Prop :=
  w.cell? ⟨g, o, none⟩ = some s ∧ w.cell? ⟨g, o + 1, none⟩ = some (.bool b1) ∧ w.cell? ⟨g, o + 2, none⟩ = some (.slice A1 n1 c1) ∧ w.cell? ⟨g, o + 3, none⟩ = some (.slice D1 m1 e1) ∧ w.cell? ⟨g, o + 4, none⟩ = some (.bool b2) ∧ w.cell? ⟨g, o + 5, none⟩ = some (.slice A2 n2 c2) ∧ w.cell? ⟨g, o + 6, none⟩ = some (.slice D2 m2 e2)
section
variable {w w' : World} {g o : Nat} {s : Value} {b1 b2 : Bool} {A1 D1 A2 D2 : Option Addr} {n1 c1 m1 e1 n2 c2 m2 e2 : Nat}
theorem cells7 (h0 : w.cell? ⟨g, o, none⟩ = some s) (h1 : w.cell? ⟨g, o + 1, none⟩ = some (.bool b1)) (h2 : w.cell? ⟨g, o + 1 + 1, none⟩ = some (.slice A1 n1 c1)) (h3 : w.cell? ⟨g, o + 1 + 2, none⟩ = some (.slice D1 m1 e1)) (h4 : w.cell? ⟨g, o + 4, none⟩ = some (.bool b2)) (h5 : w.cell? ⟨g, o + 4 + 1, none⟩ = some (.slice A2 n2 c2)) (h6 : w.cell? ⟨g, o + 4 + 2, none⟩ = some (.slice D2 m2 e2)) : Cells7 w g o s b1 A1 n1 c1 D1 m1 e1 b2 A2 n2 c2 D2 m2 e2 := ⟨h0, h1, h2, h3, h4, h5, h6⟩
theorem cells7_belw (h : Cells7 w g o s b1 A1 n1 c1 D1 m1 e1 b2 A2 n2 c2 D2 m2 e2) (hb : Below w.heap.size w w') :
    w'.cell? ⟨g, o, none⟩ = some s ∧ w'.cell? ⟨g, o + 1, none⟩ = some (.bool b1) ∧ w'.cell? ⟨g, o + 2, none⟩ = some (.slice A1 n1 c1) ∧ w'.cell? ⟨g, o + 3, none⟩ = some (.slice D1 m1 e1) ∧ w'.cell? ⟨g, o + 4, none⟩ = some (.bool b2) ∧ w'.cell? ⟨g, o + 5, none⟩ = some (.slice A2 n2 c2) ∧ w'.cell? ⟨g, o + 6, none⟩ = some (.slice D2 m2 e2) :=
  ⟨cell_belw h.1 hb, cell_belw h.2.1 hb, cell_belw h.2.2.1 hb, cell_belw h.2.2.2.1 hb, cell_belw h.2.2.2.2.1 hb, cell_belw h.2.2.2.2.2.1 hb, cell_belw h.2.2.2.2.2.2 hb⟩
end
theorem bool_of (p : Prop) : ∃ v : Bool, v = true ↔ p := by
  by_cases h : p
  · exact ⟨true, by simp [h]⟩
  · exact ⟨false, by simp [h]⟩
theorem take_next {α : Type} {l m : List α} {i : Nat} {a : α} (h : l.take i = m.take i) (h1 : l[i]? = some a) (h2 : m[i]? = some a) : l.take (i + 1) = m.take (i + 1) := by rw [List.take_add_one, List.take_add_one, h, h1, h2]
theorem b_body_d (w : World) (A : Option Addr) (n c : Nat) (a : BodyL) (h : SlS (MkAt 1000000) 7 w A n c a.pts) (A' : Option Addr) (n' c' : Nat) (b : BodyL) (h' : SlS (MkAt 1000000) 7 w A' n' c' b.pts) (hn : n ≤ 1000) (v : Bool) (hv : v = true ↔ a = b) :
    Calls Tryz.prog 29 #[.agg #[strV a.name, .slice A n c], .agg #[strV b.name, .slice A' n' c']] w (RetV w (.bool v)) := by
  have H := Lib.hid (And.intro h h')
  have HV := Lib.hid hv
  clear h h' hv
  by_cases en : a.name = b.name
  · by_cases el : n = n'
    · subst el
      have hs : (a.name == b.name) = true := beq_iff_eq.2 en
      have HN := Lib.hid en
      have hnc := H.out.1.2.1
      have hnc' := H.out.2.2.1
      have HLA := Lib.hid H.out.1.1
      have HLB := Lib.hid H.out.2.1
      clear en
      go_enter Tryz.func29, Tryz.ntmps29
      go_wp2_with fail
      go_loopw [5] (fun iv wr => ∃ i : Nat, iv = .int .i64 (i : Nat) ∧ i ≤ n ∧ Hid (a.pts.take i = b.pts.take i) ∧ Blk wr w.heap.size 56 #[strV a.name, .slice A n c] ∧ Blk wr (w.heap.size + 1) 56 #[strV b.name, .slice A' n c'] ∧ Below w.heap.size w wr) (fun iv _ => n - (intOf iv).toNat)
      case atStart => exact ⟨0, rfl, Nat.zero_le _, Lib.hid rfl, (blkAt w _ _ rfl).alloc _, blkAt _ _ _ (by simp), ((brefl w).alloc (Nat.le_refl _) _).alloc (by simp) _⟩
      case round =>
        obtain ⟨i, rfl, hi, HI, xa, xb, bwa⟩ := hrel
        rename World => wa
        have hla : w.heap.size < wa.heap.size := xa.lt
        have hlb : w.heap.size + 1 < wa.heap.size := xb.lt
        rcases Nat.lt_or_ge i n with hlt | hge
        · have hi1 : ((i : Int) < (n : Int)) = True := by simp; omega
          obtain ⟨g, o, x, e1, hg, _, hxi, hX⟩ := H.out.1.at_ hlt
          subst e1
          obtain ⟨g9, o9, y, e1, hg9, _, hyi, hY⟩ := H.out.2.at_ hlt
          subst e1
          have ca1 := xa.cell 1
          obtain ⟨d0, ⟨b1, A1, n1, c1, D1, m1, e1, d1, d2, d3, hQ1⟩, ⟨b2, A2, n2, c2, D2, m2, e2, d4, d5, d6, hQ2⟩, _⟩ := hX
          obtain ⟨f0, ⟨b3, A3, n3, c3, D3, m3, e3, f1, f2, f3, hQ3⟩, ⟨b4, A4, n4, c4, D4, m4, e4, f4, f5, f6, hQ4⟩, _⟩ := hY
          have HM1 := Lib.hid (cells7 d0 d1 d2 d3 d4 d5 d6)
          have HM2 := Lib.hid (cells7 f0 f1 f2 f3 f4 f5 f6)
          have HQ := Lib.hid (And.intro hQ1 (And.intro hQ2 (And.intro hQ3 hQ4)))
          have HXI := Lib.hid (And.intro hxi hyi)
          clear d0 d1 d2 d3 d4 d5 d6 f0 f1 f2 f3 f4 f5 f6 hQ1 hQ2 hQ3 hQ4 hxi hyi
          go_wp2_with fail
          clear ca1
          have hi2 : ((i : Int) < (n : Int)) := by omega
          refine wp_region_own (B := w.heap.size) (fr := fun xf => ⟨List.toArray (.agg #[strV a.name, .slice (some ⟨g, o, none⟩) n c] :: .agg #[strV b.name, .slice (some ⟨g9, o9, none⟩) n c'] :: .pointer (some ⟨w.heap.size, 0, none⟩) :: .pointer (some ⟨w.heap.size + 1, 0, none⟩) :: u4 :: .int .i64 (i : Nat) :: xf 10 :: xf 11 :: .pointer (some ⟨w.heap.size, 0, none⟩) :: strV a.name :: .pointer (some ⟨w.heap.size + 1, 0, none⟩) :: strV b.name :: .bool false :: .bool false :: .pointer (some ⟨w.heap.size, 1, none⟩) :: .slice (some ⟨g, o, none⟩) n c :: .int .i64 (n : Nat) :: .pointer (some ⟨w.heap.size + 1, 1, none⟩) :: .slice (some ⟨g9, o9, none⟩) n c' :: .int .i64 (n : Nat) :: .bool false :: .bool false :: .int .i64 (i : Nat) :: .pointer (some ⟨w.heap.size, 1, none⟩) :: .slice (some ⟨g, o, none⟩) n c :: .int .i64 (n : Nat) :: .bool true :: u27 :: u28 :: xf 0 :: xf 1 :: xf 2 :: xf 3 :: xf 4 :: xf 5 :: xf 6 :: xf 7 :: xf 8 :: xf 9 :: u39 :: u40 :: u41 :: u42 :: u43 :: u44 :: u45 :: u46 :: u47 :: u48 :: u49 :: u50 :: u51 :: u52 :: u53 :: u54 :: u55 :: u56 :: u57 :: u58 :: u59 :: []), []⟩) (R := fun ri => List.getD ((PEq (.pointer (some ⟨w.heap.size, 1, none⟩))) :: (PEq (.slice (some ⟨g, o, none⟩) n c)) :: (PEq (.int .i64 (i : Nat))) :: (PEq (.pointer (some ⟨g, o + i * 7, none⟩))) :: (PEq (.agg #[strV x.name, .bool b1, .slice A1 n1 c1, .slice D1 m1 e1, .bool b2, .slice A2 n2 c2, .slice D2 m2 e2])) :: (PEq (.pointer (some ⟨w.heap.size + 1, 1, none⟩))) :: (PEq (.slice (some ⟨g9, o9, none⟩) n c')) :: (PEq (.int .i64 (i : Nat))) :: (PEq (.pointer (some ⟨g9, o9 + i * 7, none⟩))) :: (PEq (.agg #[strV y.name, .bool b3, .slice A3 n3 c3, .slice D3 m3 e3, .bool b4, .slice A4 n4 c4, .slice D4 m4 e4])) :: PAny :: PAny :: PAny :: PAny :: []) ri (fun _ _ => True)) (es := [⟨10, 12, 85, #[.string ⟨#[]⟩, .bool false, .slice none 0 0, .slice none 0 0, .bool false, .slice none 0 0, .slice none 0 0], fun cz _ => cz = #[strV x.name, .bool b1, .slice A1 n1 c1, .slice D1 m1 e1, .bool b2, .slice A2 n2 c2, .slice D2 m2 e2]⟩, ⟨11, 13, 85, #[.string ⟨#[]⟩, .bool false, .slice none 0 0, .slice none 0 0, .bool false, .slice none 0 0, .slice none 0 0], fun cz _ => cz = #[strV y.name, .bool b3, .slice A3 n3 c3, .slice D3 m3 e3, .bool b4, .slice A4 n4 c4, .slice D4 m4 e4]⟩]) (ow := [⟨w.heap.size, 14, 0, 56, #[strV a.name, .slice (some ⟨g, o, none⟩) n c], fun _ _ => True⟩, ⟨w.heap.size + 1, 14, 0, 56, #[strV b.name, .slice (some ⟨g9, o9, none⟩) n c'], fun _ _ => True⟩]) (x0 := (upd (upd (upd (upd (upd (upd (upd (upd (upd (upd (upd (upd (fun _ => undef) 0 u29) 1 u30) 2 u31) 3 u32) 4 u33) 5 u34) 6 u35) 7 u36) 8 u37) 9 u38) 10 u6) 11 u7)) (by kernel_rfl)
            (each_of ⟨fun _ _ => rfl, fun _ _ => rfl, fun _ _ => rfl, fun _ _ => rfl, fun _ _ => rfl, fun _ _ => rfl, fun _ _ => rfl, fun _ _ => rfl, fun _ _ => rfl, fun _ _ => rfl, fun _ _ => rfl, fun _ _ => rfl, fun _ _ => rfl, fun _ _ => rfl, trivial⟩) (each_of (acyc_from _ 0 (by kernel_rfl))) (AllBw.get _ ⟨bEq _, bEq _, bEq _, bEq _, bEq _, bEq _, bEq _, bEq _, bEq _, bEq _, bAny, bAny, bAny, bAny, trivial⟩)
            (fmc ⟨fun _ _ _ h _ => h, fmc ⟨fun _ _ _ h _ => h, fun _ h => nomatch h⟩⟩) (fmc ⟨fun _ _ _ _ _ => True.intro, fmc ⟨fun _ _ _ _ _ => True.intro, fun _ h => nomatch h⟩⟩) (fmc ⟨⟨by simp, by simp⟩, fmc ⟨⟨by simp, by simp⟩, fun _ h => nomatch h⟩⟩) bwa.size
            (fmc ⟨⟨xa, Nat.le_refl _⟩, fmc ⟨⟨xb, by show w.heap.size ≤ w.heap.size + 1; omega⟩, fun _ h => nomatch h⟩⟩) (ownDistB (by simp <;> omega))
            (each_of ⟨?_, ?_, ?_, ?_, ?_, ?_, ?_, ?_, ?_, ?_, ?_, ?_, ?_, ?_, trivial⟩) ?_
          · exact .inl ⟨by simp, by simp, fun xf wq hk hbl hd K hK => by
              (try dsimp only)
              go_simp
              have hz := hK.out (.pointer (some ⟨w.heap.size, 1, none⟩)) _ rfl (brefl _)
              exact hz⟩
          · exact .inl ⟨by simp, by simp, fun xf wq hk hbl hd K hK => by
              have dq0 : xf 0 = .pointer (some ⟨w.heap.size, 1, none⟩) := hd ⟨0, .data⟩ (by simp) rfl
              have y : Blk wq w.heap.size 56 #[strV a.name, .slice (some ⟨g, o, none⟩) n c] := hbl _ (List.Mem.head _) (by simp [Region.binds])
              have hc1 : wq.cell? ⟨w.heap.size, 1, none⟩ = some (.slice (some ⟨g, o, none⟩) n c) := y.cell 1
              (try dsimp only); (try simp only [dq0])
              go_simp
              have hz := hK.out (.slice (some ⟨g, o, none⟩) n c) _ rfl (brefl _)
              simp only [dq0] at hz
              exact hz⟩
          · exact .inl ⟨by simp, by simp, fun xf wq hk hbl hd K hK => by
              (try dsimp only)
              go_simp
              have hz := hK.out (.int .i64 (i : Nat)) _ rfl (brefl _)
              exact hz⟩
          · exact .inl ⟨by simp, by simp, fun xf wq hk hbl hd K hK => by
              have dq1 : xf 1 = .slice (some ⟨g, o, none⟩) n c := hd ⟨1, .data⟩ (by simp) rfl
              have dq2 : xf 2 = .int .i64 (i : Nat) := hd ⟨2, .data⟩ (by simp) rfl
              (try dsimp only); (try simp only [dq1, dq2])
              go_simp
              have hz := hK.out (.pointer (some ⟨g, o + i * 7, none⟩)) _ rfl (brefl _)
              simp only [dq1, dq2] at hz
              exact hz⟩
          · exact .inl ⟨by simp, by simp, fun xf wq hk hbl hd K hK => by
              have dq3 : xf 3 = .pointer (some ⟨g, o + i * 7, none⟩) := hd ⟨3, .data⟩ (by simp) rfl
              obtain ⟨k0, k1, k2, k3, k4, k5, k6⟩ := cells7_belw HM1.out (bwa.trans hk)
              (try dsimp only); (try simp only [dq3])
              go_simp
              have hz := hK.out (.agg #[strV x.name, .bool b1, .slice A1 n1 c1, .slice D1 m1 e1, .bool b2, .slice A2 n2 c2, .slice D2 m2 e2]) _ rfl (brefl _)
              simp only [dq3] at hz
              exact hz⟩
          · exact .inl ⟨by simp, by simp, fun xf wq hk hbl hd K hK => by
              (try dsimp only)
              go_simp
              have hz := hK.out (.pointer (some ⟨w.heap.size + 1, 1, none⟩)) _ rfl (brefl _)
              exact hz⟩
          · exact .inl ⟨by simp, by simp, fun xf wq hk hbl hd K hK => by
              have dq5 : xf 5 = .pointer (some ⟨w.heap.size + 1, 1, none⟩) := hd ⟨5, .data⟩ (by simp) rfl
              have y : Blk wq (w.heap.size + 1) 56 #[strV b.name, .slice (some ⟨g9, o9, none⟩) n c'] := hbl _ (List.Mem.tail _ (List.Mem.head _)) (by simp [Region.binds])
              have hc1 : wq.cell? ⟨w.heap.size + 1, 1, none⟩ = some (.slice (some ⟨g9, o9, none⟩) n c') := y.cell 1
              (try dsimp only); (try simp only [dq5])
              go_simp
              have hz := hK.out (.slice (some ⟨g9, o9, none⟩) n c') _ rfl (brefl _)
              simp only [dq5] at hz
              exact hz⟩
          · exact .inl ⟨by simp, by simp, fun xf wq hk hbl hd K hK => by
              (try dsimp only)
              go_simp
              have hz := hK.out (.int .i64 (i : Nat)) _ rfl (brefl _)
              exact hz⟩
          · exact .inl ⟨by simp, by simp, fun xf wq hk hbl hd K hK => by
              have dq6 : xf 6 = .slice (some ⟨g9, o9, none⟩) n c' := hd ⟨6, .data⟩ (by simp) rfl
              have dq7 : xf 7 = .int .i64 (i : Nat) := hd ⟨7, .data⟩ (by simp) rfl
              (try dsimp only); (try simp only [dq6, dq7])
              go_simp
              have hz := hK.out (.pointer (some ⟨g9, o9 + i * 7, none⟩)) _ rfl (brefl _)
              simp only [dq6, dq7] at hz
              exact hz⟩
          · exact .inl ⟨by simp, by simp, fun xf wq hk hbl hd K hK => by
              have dq8 : xf 8 = .pointer (some ⟨g9, o9 + i * 7, none⟩) := hd ⟨8, .data⟩ (by simp) rfl
              obtain ⟨k0, k1, k2, k3, k4, k5, k6⟩ := cells7_belw HM2.out (bwa.trans hk)
              (try dsimp only); (try simp only [dq8])
              go_simp
              have hz := hK.out (.agg #[strV y.name, .bool b3, .slice A3 n3 c3, .slice D3 m3 e3, .bool b4, .slice A4 n4 c4, .slice D4 m4 e4]) _ rfl (brefl _)
              simp only [dq8] at hz
              exact hz⟩
          · exact .inr (.inl ⟨⟨10, 12, 85, #[.string ⟨#[]⟩, .bool false, .slice none 0 0, .slice none 0 0, .bool false, .slice none 0 0, .slice none 0 0], fun cz _ => cz = #[strV x.name, .bool b1, .slice A1 n1 c1, .slice D1 m1 e1, .bool b2, .slice A2 n2 c2, .slice D2 m2 e2]⟩, by simp, rfl, by simp, by simp, by simp, fun _ _ => True.intro, fun xf wq K hK => by
              (try dsimp only)
              go_simp
              exact hK.out⟩)
          · exact .inr (.inl ⟨⟨11, 13, 85, #[.string ⟨#[]⟩, .bool false, .slice none 0 0, .slice none 0 0, .bool false, .slice none 0 0, .slice none 0 0], fun cz _ => cz = #[strV y.name, .bool b3, .slice A3 n3 c3, .slice D3 m3 e3, .bool b4, .slice A4 n4 c4, .slice D4 m4 e4]⟩, by simp, rfl, by simp, by simp, by simp, fun _ _ => True.intro, fun xf wq K hK => by
              (try dsimp only)
              go_simp
              exact hK.out⟩)
          · exact .inr (.inr (.inl ⟨⟨10, 12, 85, #[.string ⟨#[]⟩, .bool false, .slice none 0 0, .slice none 0 0, .bool false, .slice none 0 0, .slice none 0 0], fun cz _ => cz = #[strV x.name, .bool b1, .slice A1 n1 c1, .slice D1 m1 e1, .bool b2, .slice A2 n2 c2, .slice D2 m2 e2]⟩, by simp, rfl, by simp, by simp, by simp, by simp, True.intro, fun _ _ => True.intro, ⟨⟨10, .data⟩, by simp, rfl, rfl⟩, fun xf wq g7 hx hblk hd => by
              have dq4 : xf 4 = .agg #[strV x.name, .bool b1, .slice A1 n1 c1, .slice D1 m1 e1, .bool b2, .slice A2 n2 c2, .slice D2 m2 e2] := hd ⟨4, .data⟩ (by simp) rfl
              dsimp only at hx hblk
              refine ⟨[strV x.name, .bool b1, .slice A1 n1 c1, .slice D1 m1 e1, .bool b2, .slice A2 n2 c2, .slice D2 m2 e2], fun w' hk => rfl, fun K hK => ?_⟩
              have hc0 : wq.cell? ⟨g7, 0, none⟩ = some (.string ⟨#[]⟩) := hblk.cell 0
              have hc1 : wq.cell? ⟨g7, 1, none⟩ = some (.bool false) := hblk.cell 1
              have hc2 : wq.cell? ⟨g7, 2, none⟩ = some (.slice none 0 0) := hblk.cell 2
              have hc3 : wq.cell? ⟨g7, 3, none⟩ = some (.slice none 0 0) := hblk.cell 3
              have hc4 : wq.cell? ⟨g7, 4, none⟩ = some (.bool false) := hblk.cell 4
              have hc5 : wq.cell? ⟨g7, 5, none⟩ = some (.slice none 0 0) := hblk.cell 5
              have hc6 : wq.cell? ⟨g7, 6, none⟩ = some (.slice none 0 0) := hblk.cell 6
              have hf0 : wq.frozen? ⟨g7, 0, none⟩ = false := hblk.frozen 0
              have hf1 : wq.frozen? ⟨g7, 1, none⟩ = false := hblk.frozen 1
              have hf2 : wq.frozen? ⟨g7, 2, none⟩ = false := hblk.frozen 2
              have hf3 : wq.frozen? ⟨g7, 3, none⟩ = false := hblk.frozen 3
              have hf4 : wq.frozen? ⟨g7, 4, none⟩ = false := hblk.frozen 4
              have hf5 : wq.frozen? ⟨g7, 5, none⟩ = false := hblk.frozen 5
              have hf6 : wq.frozen? ⟨g7, 6, none⟩ = false := hblk.frozen 6
              (try dsimp only)
              simp only [hx, dq4]
              go_simp
              have hz := hK.out undef
              simp only [hx, dq4] at hz
              exact hz⟩))
          · exact .inr (.inr (.inl ⟨⟨11, 13, 85, #[.string ⟨#[]⟩, .bool false, .slice none 0 0, .slice none 0 0, .bool false, .slice none 0 0, .slice none 0 0], fun cz _ => cz = #[strV y.name, .bool b3, .slice A3 n3 c3, .slice D3 m3 e3, .bool b4, .slice A4 n4 c4, .slice D4 m4 e4]⟩, by simp, rfl, by simp, by simp, by simp, by simp, True.intro, fun _ _ => True.intro, ⟨⟨11, .data⟩, by simp, rfl, rfl⟩, fun xf wq g7 hx hblk hd => by
              have dq9 : xf 9 = .agg #[strV y.name, .bool b3, .slice A3 n3 c3, .slice D3 m3 e3, .bool b4, .slice A4 n4 c4, .slice D4 m4 e4] := hd ⟨9, .data⟩ (by simp) rfl
              dsimp only at hx hblk
              refine ⟨[strV y.name, .bool b3, .slice A3 n3 c3, .slice D3 m3 e3, .bool b4, .slice A4 n4 c4, .slice D4 m4 e4], fun w' hk => rfl, fun K hK => ?_⟩
              have hc0 : wq.cell? ⟨g7, 0, none⟩ = some (.string ⟨#[]⟩) := hblk.cell 0
              have hc1 : wq.cell? ⟨g7, 1, none⟩ = some (.bool false) := hblk.cell 1
              have hc2 : wq.cell? ⟨g7, 2, none⟩ = some (.slice none 0 0) := hblk.cell 2
              have hc3 : wq.cell? ⟨g7, 3, none⟩ = some (.slice none 0 0) := hblk.cell 3
              have hc4 : wq.cell? ⟨g7, 4, none⟩ = some (.bool false) := hblk.cell 4
              have hc5 : wq.cell? ⟨g7, 5, none⟩ = some (.slice none 0 0) := hblk.cell 5
              have hc6 : wq.cell? ⟨g7, 6, none⟩ = some (.slice none 0 0) := hblk.cell 6
              have hf0 : wq.frozen? ⟨g7, 0, none⟩ = false := hblk.frozen 0
              have hf1 : wq.frozen? ⟨g7, 1, none⟩ = false := hblk.frozen 1
              have hf2 : wq.frozen? ⟨g7, 2, none⟩ = false := hblk.frozen 2
              have hf3 : wq.frozen? ⟨g7, 3, none⟩ = false := hblk.frozen 3
              have hf4 : wq.frozen? ⟨g7, 4, none⟩ = false := hblk.frozen 4
              have hf5 : wq.frozen? ⟨g7, 5, none⟩ = false := hblk.frozen 5
              have hf6 : wq.frozen? ⟨g7, 6, none⟩ = false := hblk.frozen 6
              (try dsimp only)
              simp only [hx, dq9]
              go_simp
              have hz := hK.out undef
              simp only [hx, dq9] at hz
              exact hz⟩))
          intro y7 w7 kq hbl lw how _ hfl hds
          obtain ⟨_, za, ez, _⟩ := how _ (List.Mem.head _)
          obtain rfl := ez (by simp)
          obtain ⟨_, zb, ez, _⟩ := how _ (List.Mem.tail _ (List.Mem.head _))
          obtain rfl := ez (by simp)
          obtain ⟨g6, _, eg6, Gg6, xg6, rfl⟩ := hfl _ (List.Mem.head _)
          obtain ⟨g7, _, eg7, Gg7, xg7, rfl⟩ := hfl _ (List.Mem.tail _ (List.Mem.head _))
          dsimp only at za zb eg6 Gg6 xg6 eg7 Gg7 xg7
          clear how hfl hds ez
          have bw7 := bwa.trans kq
          have lg6 : g6 < w7.heap.size := xg6.lt
          have lg7 : g7 < w7.heap.size := xg7.lt
          (try dsimp only)
          simp only [eg6, eg7]
          clear eg6 eg7
          obtain ⟨k0, k1, k2, k3, k4, k5, k6⟩ := xg6.c7
          obtain ⟨l0, l1, l2, l3, l4, l5, l6⟩ := xg7.c7
          by_cases hnm : x.name = y.name
          · have hnb : (x.name == y.name) = true := beq_iff_eq.2 hnm
            have HNM := Lib.hid hnm
            clear hnm
            obtain ⟨v1, hv1⟩ := bool_of (x.x = y.x)
            obtain ⟨v2, hv2⟩ := bool_of (x.y = y.y)
            have HV1 := Lib.hid hv1
            have HV2 := Lib.hid hv2
            clear hv1 hv2
            go_wp2_with fail
            (with_reducible refine (b_rat_d w7 b1 A1 n1 c1 D1 m1 e1 b3 A3 n3 c3 D3 m3 e3 x.x y.x 1000000 1000000 (HQ.out.1.belw bw7) (HQ.out.2.2.1.belw bw7) (by decide) (by decide) v1 HV1.out).mono ?_); rintro e' w8 ⟨rfl, hb8⟩
            have bw8 := bw7.trans (hb8.mono bw7.size)
            have za8 := za.below hb8 za.lt
            have zb8 := zb.below hb8 zb.lt
            have y6 := xg6.below hb8 xg6.lt
            have y7' := xg7.below hb8 xg7.lt
            clear k0 k1 k2 k3 k4 k5 k6 l0 l1 l2 l3 l4 l5 l6
            cases v1
            · have hvf : v = false := by
                cases v
                · rfl
                · exfalso
                  have := HV.out.1 rfl
                  subst this
                  have h9 := HXI.out.1.symm.trans HXI.out.2
                  injection h9 with h9
                  subst h9
                  exact absurd (HV1.out.2 rfl) (by decide)
              subst hvf
              go_wp2_with fail
              go_ret
              exact ⟨rfl, bw8⟩
            · have lg6 : g6 < w8.heap.size := y6.lt
              have lg7 : g7 < w8.heap.size := y7'.lt
              obtain ⟨k0, k1, k2, k3, k4, k5, k6⟩ := y6.c7
              obtain ⟨l0, l1, l2, l3, l4, l5, l6⟩ := y7'.c7
              go_wp2_with fail
              (with_reducible refine (b_rat_d w8 b2 A2 n2 c2 D2 m2 e2 b4 A4 n4 c4 D4 m4 e4 x.y y.y 1000000 1000000 (HQ.out.2.1.belw bw8) (HQ.out.2.2.2.belw bw8) (by decide) (by decide) v2 HV2.out).mono ?_); rintro e' w9 ⟨rfl, hb9⟩
              have bw9 := bw8.trans (hb9.mono bw8.size)
              have za9 := za8.below hb9 za8.lt
              have zb9 := zb8.below hb9 zb8.lt
              clear k0 k1 k2 k3 k4 k5 k6 l0 l1 l2 l3 l4 l5 l6
              cases v2
              · have hvf : v = false := by
                  cases v
                  · rfl
                  · exfalso
                    have := HV.out.1 rfl
                    subst this
                    have h9 := HXI.out.1.symm.trans HXI.out.2
                    injection h9 with h9
                    subst h9
                    exact absurd (HV2.out.2 rfl) (by decide)
                subst hvf
                go_wp2_with fail
                go_ret
                exact ⟨rfl, bw9⟩
              · have hxy : x = y := by
                  have e1 := HNM.out
                  have e2 := HV1.out.1 (by simp)
                  have e3 := HV2.out.1 (by simp)
                  obtain ⟨x1, x2, x3⟩ := x
                  obtain ⟨y1, y2, y3⟩ := y
                  simp only at e1 e2 e3
                  rw [e1, e2, e3]
                have HI2 : Hid (a.pts.take (i + 1) = b.pts.take (i + 1)) := Lib.hid (take_next HI.out HXI.out.1 (by rw [hxy]; exact HXI.out.2))
                clear hxy
                go_wp2_with fail
                go_roundw
                case rel => exact ⟨i + 1, by go_num, by omega, HI2, za9, zb9, bw9⟩
                case measure => simp [intOf]; omega
          · have hnb : (x.name == y.name) = false := beq_eq_false_iff_ne.2 hnm
            have hvf : v = false := by
              cases v
              · rfl
              · exfalso
                have := HV.out.1 rfl
                subst this
                have h9 := HXI.out.1.symm.trans HXI.out.2
                injection h9 with h9
                exact hnm (by rw [h9])
            subst hvf
            clear hnm
            go_wp2_with fail
            go_ret
            exact ⟨rfl, bw7⟩
        · have hi1 : ((i : Int) < (n : Int)) = False := by simp; omega
          have e2 : a.pts = b.pts := by
            have := HI.out
            rwa [List.take_of_length_le (by rw [HLA.out]; exact hge), List.take_of_length_le (by rw [HLB.out]; exact hge)] at this
          have hvt : v = true := HV.out.2 (by
            have e1 := HN.out
            obtain ⟨a1, a2⟩ := a
            obtain ⟨b1, b2⟩ := b
            simp only at e1 e2
            rw [e1, e2])
          subst hvt
          have ca1 := xa.cell 1
          clear e2
          go_wp2_with fail
          go_ret
          exact ⟨rfl, bwa⟩
    · have el2 : ((n : Int) == (n' : Int)) = false := by simp; omega
      have el3 : ¬ (n : Int) = (n' : Int) := by omega
      have hvf : v = false := by
        cases v
        · rfl
        · exfalso
          have := HV.out.1 rfl
          subst this
          exact el (H.out.1.1.symm.trans H.out.2.1)
      subst hvf
      have hs : (a.name == b.name) = true := beq_iff_eq.2 en
      clear en
      go_enter Tryz.func29, Tryz.ntmps29
      go_wp2_with fail
      go_ret
      exact ⟨rfl, ((brefl w).alloc (Nat.le_refl _) _).alloc (by simp) _⟩
  · have hs : (a.name == b.name) = false := beq_eq_false_iff_ne.2 en
    have hvf : v = false := by
      cases v
      · rfl
      · exact absurd (by rw [HV.out.1 rfl]) en
    subst hvf
    clear en
    go_enter Tryz.func29, Tryz.ntmps29
    go_wp2_with fail
    go_ret
    exact ⟨rfl, ((brefl w).alloc (Nat.le_refl _) _).alloc (by simp) _⟩
end Go.Proofs.YtoiijifnfdgfpaaGreatDoor

/- Walks: the Parse laws: the example is awake; ParseChecked. -/
namespace Go.Proofs.YtoiijifnfdgfpaaGreatDoor
open Go Go.RowKit Bn
attribute [local go_sem ↓] Go.wp_at_zero Go.wp_at_succ
theorem ReadOut.err {s : List UInt8} {x : Int} {L : LinkL} (h : ReadOut s x L) (hx : x ≠ 0) : L = L0 := by
  cases h with
  | split _ _ _ h => exact h
  | read _ _ _ _ h => exact h
  | check _ _ _ _ _ h => exact h
  | ok l hs hr hc h hL => exact absurd h hx
theorem LkS.mono {k k' : Nat} {w : World} {A B C : Option Addr} {n c p d q e : Nat} {L : LinkL} (h : LkS k w A n c B p d C q e L) (hk : k ≤ k') : LkS k' w A n c B p d C q e L := by
  have hr : ∀ g o r, RatAt w g o r k → RatAt w g o r k' := fun g o r ⟨b, A, n, c, D, m, e, h1, h2, h3, h4⟩ => ⟨b, A, n, c, D, m, e, h1, h2, h3, h4.1, h4.2.1, h4.2.2.1, Nat.le_trans h4.2.2.2.1 hk, Nat.le_trans h4.2.2.2.2 hk⟩
  refine ⟨h.name, h.bodies.mono_ fun g o b _ hp => ?_, h.joints, h.drivers⟩
  obtain ⟨A', n', c', c0, c1, hM, hn⟩ := hp
  exact ⟨A', n', c', c0, c1, hM.mono_ fun g o m _ hm => ⟨hm.1, hr _ _ _ hm.2.1, hr _ _ _ hm.2.2.1, hm.2.2.2⟩, hn⟩
end Go.Proofs.YtoiijifnfdgfpaaGreatDoor

/- Walks: the Print laws: PrintDiffers. -/
namespace Go.Proofs.YtoiijifnfdgfpaaGreatDoor
open Go Go.RowKit Bn
attribute [local go_sem ↓] Go.wp_at_zero Go.wp_at_succ
theorem out_ok {L : LinkL} (h : outErr L = 0) : lkErr L = 0 ∧ outText L = lkText L := by
  refine ⟨?_, if_pos h⟩
  unfold outErr at h
  split at h
  · exact h
  · rename_i h0; simpa using h0
end Go.Proofs.YtoiijifnfdgfpaaGreatDoor
