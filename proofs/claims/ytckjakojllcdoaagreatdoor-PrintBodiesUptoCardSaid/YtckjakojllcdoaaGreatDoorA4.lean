/- Part A4: lemmas and walks that the claim rests on. No claim is made here. -/
import Derived.BigQuiet
import Derived.Deep.RegionHeld3
import Derived.Test.YtckjakojllcdoaaGreatDoorA3
set_option linter.unusedVariables false
set_option maxHeartbeats 8000000
set_option maxRecDepth 100000
/- Walks: texts of linkages: long numbers (both). -/
namespace Go.Proofs.YtckjakojllcdoaaGreatDoor
open Go Go.RowKit Bn
attribute [local go_sem ↓] Go.wp_at_zero Go.wp_at_succ
def longM (m : MarkL) : Bool := decide (60 < (ratText m.x.q).length) || decide (60 < (ratText m.y.q).length)
def longL (l : List BodyL) : Bool := l.any fun b => b.pts.any longM
theorem any_step {α : Type} {f : α → Bool} {l : List α} {i : Nat} {a : α} (ha : l[i]? = some a) (h : (l.take i).any f = false) (hf : f a = false) : (l.take (i + 1)).any f = false := by
  rw [List.take_add_one, ha, List.any_append, h]
  simp [hf]
theorem any_hit {α : Type} {f : α → Bool} {l : List α} {i : Nat} {a : α} (ha : l[i]? = some a) (hf : f a = true) : l.any f = true :=
  List.any_eq_true.2 ⟨a, List.mem_of_getElem? ha, hf⟩
theorem longL_step {l : List BodyL} {i : Nat} {b : BodyL} (hb : l[i]? = some b) (h : longL (l.take i) = false) (hf : b.pts.any longM = false) : longL (l.take (i + 1)) = false := any_step hb h hf
theorem longL_hit {l : List BodyL} {i j : Nat} {b : BodyL} {m : MarkL} (hb : l[i]? = some b) (hm : b.pts[j]? = some m) (h : longM m = true) : longL l = true := any_hit hb (any_hit hm h)
theorem p_long (w : World) (A : Option Addr) (n c : Nat) (B : Option Addr) (p d : Nat) (C : Option Addr) (q e : Nat) (nm : List UInt8) (l : List BodyL) (h : SlS (BdAt 40) 2 w A n c l) (htab : Tab w) (hn : n ≤ 1000) (hps : ∀ b ∈ l, b.pts.length ≤ 1000) (v : Bool) (hv : longL l = v) :
  Calls Tryz.prog 25 #[.agg #[strV nm, .slice A n c, .slice B p d, .slice C q e]] w (RetV w (.bool v)) := by
 have HV := Lib.hid hv
 have HL := Lib.hid h.1
 have HPS := Lib.hid hps
 have hnc := h.2.1
 have H := Lib.hid h
 have HTab := Lib.hid htab
 clear htab
 clear h hv hps
 go_enter Tryz.func25, Tryz.ntmps25
 go_wp2_with fail
 go_loopw [10] (fun iv wr => ∃ i : Nat, iv = .int .i64 (i : Nat) ∧ i ≤ n ∧ Hid (longL (l.take i) = false) ∧ Blk wr w.heap.size 26 #[strV nm, .slice A n c, .slice B p d, .slice C q e] ∧ Below w.heap.size w wr) (fun iv _ => n - (intOf iv).toNat)
 case atStart => exact ⟨0, rfl, Nat.zero_le _, Lib.hid rfl, blkAt _ _ _ (by simp), (brefl w).alloc (Nat.le_refl _) _⟩
 case round =>
  obtain ⟨i, rfl, hi, HI, xL, hb⟩ := hrel
  rename World => wa
  have hlL : w.heap.size < wa.heap.size := xL.lt
  have cL := xL.cell 1
  rcases Nat.lt_or_ge i n with hlt | hge
  ·have hi1 : ((i : Int) < (n : Int)) = True := by simp; omega
   obtain ⟨g, o, b, e1, hg, _, hbi, hB⟩ := (H.out.bd hb).at_ hlt
   subst e1
   obtain ⟨A', n', c', c0, c1, hM, hnm⟩ := hB
   have hnc' := hM.2.1
   have hn1 : n' ≤ 1000 := by rw [← hM.1]; exact HPS.out b (List.mem_of_getElem? hbi)
   have HM := Lib.hid hM
   have HBI := Lib.hid hbi
   clear hM hbi
   go_wp2_with fail
   have xb : Blk (wa.alloc (.cells #[strV b.name, .slice A' n' c'] 38)) wa.heap.size 38 #[strV b.name, .slice A' n' c'] := blkAt _ _ _ rfl
   have qb : Below wa.heap.size wa (wa.alloc (.cells #[strV b.name, .slice A' n' c'] 38)) := (brefl wa).alloc (Nat.le_refl _) _
   have xL1 := xL.below qb xL.lt
   have hb1 := hb.trans (qb.mono hb.size)
   clear cL c0 c1
   generalize (wa.alloc (.cells #[strV b.name, .slice A' n' c'] 38)) = wx at xb qb xL1 hb1 ⊢
   have cb := xb.cell 1
   go_wp2_with fail
   clear cb
   go_loopw [17] (fun jv w2 => ∃ j : Nat, jv = .int .i64 (j : Nat) ∧ j ≤ n' ∧ Hid ((b.pts.take j).any longM = false) ∧ Below wx.heap.size wx w2) (fun jv _ => n' - (intOf jv).toNat)
   case atStart => exact ⟨0, rfl, Nat.zero_le _, Lib.hid rfl, brefl wx⟩
   case round =>
    obtain ⟨j, rfl, hj, HJ, hb2⟩ := hrel
    rename World => wb
    have xL2 := xL1.below hb2 xL1.lt
    have hlL2 : w.heap.size < wb.heap.size := xL2.lt
    have cL2 := xL2.cell 1
    have bwb := hb1.trans (hb2.mono hb1.size)
    rcases Nat.lt_or_ge j n' with hjl | hjg
    ·have hj1 : ((j : Int) < (n' : Int)) = True := by simp; omega
     obtain ⟨g', o', m, e1, hg', _, hmj, hM⟩ := ((HM.out.mk_ qb).mk_ hb2).at_ hjl
     subst e1
     have HMJ := Lib.hid hmj
     obtain ⟨d0, ⟨b1, A1, n1, c1, D1, m1, e1, d1, d2, d3, hQ1⟩, ⟨b2, A2, n2, c2, D2, m2, e2, d4, d5, d6, hQ2⟩, hmn⟩ := hM
     have d2 : wb.cell? ⟨g', o' + j * 7 + 2, none⟩ = some (.slice A1 n1 c1) := d2
     have d3 : wb.cell? ⟨g', o' + j * 7 + 3, none⟩ = some (.slice D1 m1 e1) := d3
     have d5 : wb.cell? ⟨g', o' + j * 7 + 5, none⟩ = some (.slice A2 n2 c2) := d5
     have d6 : wb.cell? ⟨g', o' + j * 7 + 6, none⟩ = some (.slice D2 m2 e2) := d6
     obtain ⟨X, hX⟩ : ∃ X, ratText m.x.q = X := ⟨_, rfl⟩
     obtain ⟨Y, hY⟩ : ∃ Y, ratText m.y.q = Y := ⟨_, rfl⟩
     have hsX := size_v X
     have hsY := size_v Y
     have HX := Lib.hid hX
     have HY := Lib.hid hY
     have HQ1 := Lib.hid hQ1
     have HQ2 := Lib.hid hQ2
     have hgb : g < wb.heap.size := by have := hb2.size; have := qb.size; omega
     clear hX hY hQ1 hQ2 hmj
     go_wp2_with fail
     have xp : Blk (wb.alloc (.cells #[strV m.name, .bool b1, .slice A1 n1 c1, .slice D1 m1 e1, .bool b2, .slice A2 n2 c2, .slice D2 m2 e2] 50)) wb.heap.size 50 #[strV m.name, .bool b1, .slice A1 n1 c1, .slice D1 m1 e1, .bool b2, .slice A2 n2 c2, .slice D2 m2 e2] := blkAt _ _ _ rfl
     have qb : Below wb.heap.size wb (wb.alloc (.cells #[strV m.name, .bool b1, .slice A1 n1 c1, .slice D1 m1 e1, .bool b2, .slice A2 n2 c2, .slice D2 m2 e2] 50)) := (brefl wb).alloc (Nat.le_refl _) _
     have HTb := Lib.hid ((HTab.out.belw bwb).belw qb)
     have HQ1b := Lib.hid (HQ1.out.belw qb)
     have HQ2b := Lib.hid (HQ2.out.belw qb)
     have bwc := bwb.trans (qb.mono bwb.size)
     have xL3 := xL2.below qb xL2.lt
     have hb3 := bnext hb2 qb
     have hwb : wb.heap.size < (wb.alloc (.cells #[strV m.name, .bool b1, .slice A1 n1 c1, .slice D1 m1 e1, .bool b2, .slice A2 n2 c2, .slice D2 m2 e2] 50)).heap.size := xp.lt
     clear HQ1 HQ2 d0 d1 d2 d3 d4 d5 d6 cL2
     generalize (wb.alloc (.cells #[strV m.name, .bool b1, .slice A1 n1 c1, .slice D1 m1 e1, .bool b2, .slice A2 n2 c2, .slice D2 m2 e2] 50)) = wc at xp qb HTb HQ1b HQ2b bwc hwb xL3 hb3 ⊢
     (with_reducible refine (p_number _ b1 A1 n1 c1 D1 m1 e1 m.x 40 HQ1b.out (by decide) (by decide) HTb.out X HX.out).mono ?_); rintro e' w3 ⟨rfl, hw3⟩
     have xp3 := xp.below hw3 xp.lt
     have xL3 := xL3.b hw3
     have bw3 := bwc.trans (hw3.mono bwc.size)
     have hb3 := bnext hb3 hw3
     by_cases hx6 : 60 < X.length
     ·have f6 : ((60 : Int) < (X.length : Int)) = True := eq_true (by omega)
      have hm6 : longM m = true := by unfold longM; rw [HX.out, decide_eq_true hx6]; rfl
      have hvt : v = true := by rw [← HV.out]; exact longL_hit HBI.out HMJ.out hm6
      subst hvt
      go_wp2_with fail
      go_ret
      exact ⟨rfl, bw3⟩
     ·have f6 : ((60 : Int) < (X.length : Int)) = False := eq_false (by omega)
      have cp4 := xp3.cell 4
      have cp5 := xp3.cell 5
      have cp6 := xp3.cell 6
      go_wp2_with fail
      (with_reducible refine (p_number _ b2 A2 n2 c2 D2 m2 e2 m.y 40 (HQ2b.out.belw hw3) (by decide) (by decide) (HTb.out.belw hw3) Y HY.out).mono ?_); rintro e' w4 ⟨rfl, hw4⟩
      have xL4 := xL3.below hw4 xL3.lt
      have bw4 := bw3.trans (hw4.mono bw3.size)
      have hb4 := bnext hb3 hw4
      clear cp4 cp5 cp6
      by_cases hy6 : 60 < Y.length
      ·have g6 : ((60 : Int) < (Y.length : Int)) = True := eq_true (by omega)
       have hm6 : longM m = true := by unfold longM; rw [HX.out, HY.out, decide_eq_true hy6, Bool.or_true]
       have hvt : v = true := by rw [← HV.out]; exact longL_hit HBI.out HMJ.out hm6
       subst hvt
       go_wp2_with fail
       go_ret
       exact ⟨rfl, bw4⟩
      ·have g6 : ((60 : Int) < (Y.length : Int)) = False := eq_false (by omega)
       have hm6 : longM m = false := by unfold longM; rw [HX.out, HY.out, decide_eq_false hx6, decide_eq_false hy6]; rfl
       have HJ2 := Lib.hid (any_step HMJ.out HJ.out hm6)
       clear hm6
       go_wp2_with fail
       go_roundw
       case rel => exact ⟨j + 1, by go_num, by omega, HJ2, hb4⟩
       case measure => simp [intOf]; omega
    ·have hj1 : ((j : Int) < (n' : Int)) = False := by simp; omega
     have hjn : b.pts.take j = b.pts := List.take_of_length_le (by rw [HM.out.1]; exact hjg)
     rw [hjn] at HJ
     have HI2 := Lib.hid (longL_step HBI.out HI.out HJ.out)
     clear hjn
     go_wp2_with fail
     go_roundw
     case rel => exact ⟨i + 1, by go_num, by omega, HI2, xL2, bwb⟩
     case measure => simp [intOf]; omega
  ·have hi1 : ((i : Int) < (n : Int)) = False := by simp; omega
   have hin : l.take i = l := List.take_of_length_le (by rw [HL.out]; exact hge)
   rw [hin] at HI
   have hvf : v = false := by rw [← HV.out]; exact HI.out
   subst hvf
   clear hin
   go_wp2_with fail
   go_ret
   exact ⟨rfl, hb⟩
theorem r_long (w : World) (A : Option Addr) (n c : Nat) (B : Option Addr) (p d : Nat) (C : Option Addr) (q e : Nat) (nm : List UInt8) (l : List BodyL) (h : SlS (BdAt 40) 2 w A n c l) (hn : n ≤ 1000) (hps : ∀ b ∈ l, b.pts.length ≤ 1000) (v : Bool) (hv : longL l = v) :
  Calls Tryz.prog 29 #[.agg #[strV nm, .slice A n c, .slice B p d, .slice C q e]] w (RetV w (.bool v)) := by
 have HV := Lib.hid hv
 have HL := Lib.hid h.1
 have HPS := Lib.hid hps
 have hnc := h.2.1
 have H := Lib.hid h
 clear h hv hps
 go_enter Tryz.func29, Tryz.ntmps29
 go_wp2_with fail
 go_loopw [3] (fun iv wr => ∃ i : Nat, iv = .int .i64 (i : Nat) ∧ i ≤ n ∧ Hid (longL (l.take i) = false) ∧ Blk wr w.heap.size 26 #[strV nm, .slice A n c, .slice B p d, .slice C q e] ∧ Below w.heap.size w wr) (fun iv _ => n - (intOf iv).toNat)
 case atStart => exact ⟨0, rfl, Nat.zero_le _, Lib.hid rfl, blkAt _ _ _ (by simp), (brefl w).alloc (Nat.le_refl _) _⟩
 case round =>
  obtain ⟨i, rfl, hi, HI, xL, hb⟩ := hrel
  rename World => wa
  have hlL : w.heap.size < wa.heap.size := xL.lt
  have cL := xL.cell 1
  rcases Nat.lt_or_ge i n with hlt | hge
  ·have hi1 : ((i : Int) < (n : Int)) = True := by simp; omega
   obtain ⟨g, o, b, e1, hg, _, hbi, hB⟩ := (H.out.bd hb).at_ hlt
   subst e1
   obtain ⟨A', n', c', c0, c1, hM, hnm⟩ := hB
   have hnc' := hM.2.1
   have hn1 : n' ≤ 1000 := by rw [← hM.1]; exact HPS.out b (List.mem_of_getElem? hbi)
   have HM := Lib.hid hM
   have HBI := Lib.hid hbi
   clear hM hbi
   go_wp2_with fail
   clear cL
   go_loopw [4] (fun jv w2 => ∃ j : Nat, jv = .int .i64 (j : Nat) ∧ j ≤ n' ∧ Hid ((b.pts.take j).any longM = false) ∧ Below wa.heap.size wa w2) (fun jv _ => n' - (intOf jv).toNat)
   case atStart => exact ⟨0, rfl, Nat.zero_le _, Lib.hid rfl, brefl wa⟩
   case round =>
    obtain ⟨j, rfl, hj, HJ, hb2⟩ := hrel
    rename World => wb
    have xL2 := xL.below hb2 xL.lt
    have hlL2 : w.heap.size < wb.heap.size := xL2.lt
    have cL2 := xL2.cell 1
    have bwb := hb.trans (hb2.mono hb.size)
    have c0 := cell_belw c0 hb2
    have c1 := cell_belw c1 hb2
    rcases Nat.lt_or_ge j n' with hjl | hjg
    ·have hj1 : ((j : Int) < (n' : Int)) = True := by simp; omega
     obtain ⟨g', o', m, e1, hg', _, hmj, hM⟩ := (HM.out.mk_ hb2).at_ hjl
     subst e1
     have HMJ := Lib.hid hmj
     obtain ⟨d0, ⟨b1, A1, n1, c1, D1, m1, e1, d1, d2, d3, hQ1⟩, ⟨b2, A2, n2, c2, D2, m2, e2, d4, d5, d6, hQ2⟩, hmn⟩ := hM
     have d2 : wb.cell? ⟨g', o' + j * 7 + 2, none⟩ = some (.slice A1 n1 c1) := d2
     have d3 : wb.cell? ⟨g', o' + j * 7 + 3, none⟩ = some (.slice D1 m1 e1) := d3
     have d5 : wb.cell? ⟨g', o' + j * 7 + 5, none⟩ = some (.slice A2 n2 c2) := d5
     have d6 : wb.cell? ⟨g', o' + j * 7 + 6, none⟩ = some (.slice D2 m2 e2) := d6
     obtain ⟨X, hX⟩ : ∃ X, ratText m.x.q = X := ⟨_, rfl⟩
     obtain ⟨Y, hY⟩ : ∃ Y, ratText m.y.q = Y := ⟨_, rfl⟩
     have hsX := size_v X
     have hsY := size_v Y
     have HX := Lib.hid hX
     have HY := Lib.hid hY
     have HQ1 := Lib.hid hQ1
     have HQ2 := Lib.hid hQ2
     have hgb : g < wb.heap.size := by have := hb2.size; omega
     clear hX hY hQ1 hQ2 hmj
     go_wp2_with fail
     have xp : Blk (wb.alloc (.cells #[strV m.name, .bool b1, .slice A1 n1 c1, .slice D1 m1 e1, .bool b2, .slice A2 n2 c2, .slice D2 m2 e2] 50)) wb.heap.size 50 #[strV m.name, .bool b1, .slice A1 n1 c1, .slice D1 m1 e1, .bool b2, .slice A2 n2 c2, .slice D2 m2 e2] := blkAt _ _ _ rfl
     have qb : Below wb.heap.size wb (wb.alloc (.cells #[strV m.name, .bool b1, .slice A1 n1 c1, .slice D1 m1 e1, .bool b2, .slice A2 n2 c2, .slice D2 m2 e2] 50)) := (brefl wb).alloc (Nat.le_refl _) _
     have HQ1b := Lib.hid (HQ1.out.belw qb)
     have HQ2b := Lib.hid (HQ2.out.belw qb)
     have bwc := bwb.trans (qb.mono bwb.size)
     have xL3 := xL2.below qb xL2.lt
     have hb3 := bnext hb2 qb
     have hwb : wb.heap.size < (wb.alloc (.cells #[strV m.name, .bool b1, .slice A1 n1 c1, .slice D1 m1 e1, .bool b2, .slice A2 n2 c2, .slice D2 m2 e2] 50)).heap.size := xp.lt
     clear HQ1 HQ2 d0 d1 d2 d3 d4 d5 d6 cL2
     generalize (wb.alloc (.cells #[strV m.name, .bool b1, .slice A1 n1 c1, .slice D1 m1 e1, .bool b2, .slice A2 n2 c2, .slice D2 m2 e2] 50)) = wc at xp qb HQ1b HQ2b bwc hwb xL3 hb3 ⊢
     (with_reducible refine (r_number _ b1 A1 n1 c1 D1 m1 e1 m.x 40 HQ1b.out (by decide) (by decide) X HX.out).mono ?_); rintro e' w3 ⟨rfl, hw3⟩
     have xp3 := xp.below hw3 xp.lt
     have xL3 := xL3.b hw3
     have bw3 := bwc.trans (hw3.mono bwc.size)
     have hb3 := bnext hb3 hw3
     by_cases hx6 : 60 < X.length
     ·have f6 : ((60 : Int) < (X.length : Int)) = True := eq_true (by omega)
      have hm6 : longM m = true := by unfold longM; rw [HX.out, decide_eq_true hx6]; rfl
      have hvt : v = true := by rw [← HV.out]; exact longL_hit HBI.out HMJ.out hm6
      subst hvt
      go_wp2_with fail
      go_ret
      exact ⟨rfl, bw3⟩
     ·have f6 : ((60 : Int) < (X.length : Int)) = False := eq_false (by omega)
      have cp4 := xp3.cell 4
      have cp5 := xp3.cell 5
      have cp6 := xp3.cell 6
      go_wp2_with fail
      (with_reducible refine (r_number _ b2 A2 n2 c2 D2 m2 e2 m.y 40 (HQ2b.out.belw hw3) (by decide) (by decide) Y HY.out).mono ?_); rintro e' w4 ⟨rfl, hw4⟩
      have xL4 := xL3.below hw4 xL3.lt
      have bw4 := bw3.trans (hw4.mono bw3.size)
      have hb4 := bnext hb3 hw4
      clear cp4 cp5 cp6
      by_cases hy6 : 60 < Y.length
      ·have g6 : ((60 : Int) < (Y.length : Int)) = True := eq_true (by omega)
       have hm6 : longM m = true := by unfold longM; rw [HX.out, HY.out, decide_eq_true hy6, Bool.or_true]
       have hvt : v = true := by rw [← HV.out]; exact longL_hit HBI.out HMJ.out hm6
       subst hvt
       go_wp2_with fail
       go_ret
       exact ⟨rfl, bw4⟩
      ·have g6 : ((60 : Int) < (Y.length : Int)) = False := eq_false (by omega)
       have hm6 : longM m = false := by unfold longM; rw [HX.out, HY.out, decide_eq_false hx6, decide_eq_false hy6]; rfl
       have HJ2 := Lib.hid (any_step HMJ.out HJ.out hm6)
       clear hm6
       go_wp2_with fail
       go_roundw
       case rel => exact ⟨j + 1, by go_num, by omega, HJ2, hb4⟩
       case measure => simp [intOf]; omega
    ·have hj1 : ((j : Int) < (n' : Int)) = False := by simp; omega
     have hjn : b.pts.take j = b.pts := List.take_of_length_le (by rw [HM.out.1]; exact hjg)
     rw [hjn] at HJ
     have HI2 := Lib.hid (longL_step HBI.out HI.out HJ.out)
     clear hjn
     go_wp2_with fail
     go_roundw
     case rel => exact ⟨i + 1, by go_num, by omega, HI2, xL2, bwb⟩
     case measure => simp [intOf]; omega
  ·have hi1 : ((i : Int) < (n : Int)) = False := by simp; omega
   have hin : l.take i = l := List.take_of_length_le (by rw [HL.out]; exact hge)
   rw [hin] at HI
   have hvf : v = false := by rw [← HV.out]; exact HI.out
   subst hvf
   clear hin
   go_wp2_with fail
   go_ret
   exact ⟨rfl, hb⟩
end Go.Proofs.YtckjakojllcdoaaGreatDoor

/- Walks: linkages: what is wrong with one: the bodies (program). -/
namespace Go.Proofs.YtckjakojllcdoaaGreatDoor
open Go Go.RowKit Bn
attribute [local go_sem ↓] Go.wp_at_zero Go.wp_at_succ
theorem m_in_q (w : World) (i : Int) (n : Nat) (v : Bool) (hv : inI i n = v) : Calls Tryz.prog 65 #[.int .i64 i, .int .i64 (n : Nat)] w (fun e w' => e = .returned (.bool v) ∧ w' = w) := by
 subst hv
 by_cases h1 : 0 ≤ i
 ·by_cases h2 : i < (n : Int)
  ·have e : inI i n = true := by unfold inI; simp [h1, h2]
   rw [e]
   have f1 : (0 ≤ i) = True := eq_true h1
   have f2 : (i < (n : Int)) = True := eq_true h2
   go_enter Tryz.func65, Tryz.ntmps65
   go_wp2_with fail
   go_ret
   exact ⟨rfl, rfl⟩
  ·have e : inI i n = false := by unfold inI; simp [h2]
   rw [e]
   have f1 : (0 ≤ i) = True := eq_true h1
   have f2 : (i < (n : Int)) = False := eq_false h2
   go_enter Tryz.func65, Tryz.ntmps65
   go_wp2_with fail
   go_ret
   exact ⟨rfl, rfl⟩
 ·have e : inI i n = false := by unfold inI; simp [h1]
  rw [e]
  have f1 : (0 ≤ i) = False := eq_false h1
  go_enter Tryz.func65, Tryz.ntmps65
  go_wp2_with fail
  go_ret
  exact ⟨rfl, rfl⟩
theorem m_in (w : World) (i : Int) (n : Nat) (v : Bool) (hv : inI i n = v) : Calls Tryz.prog 65 #[.int .i64 i, .int .i64 (n : Nat)] w (RetV w (.bool v)) := (m_in_q w i n v hv).mono fun _ _ ⟨h1, h2⟩ => ⟨h1, h2 ▸ brefl _⟩
theorem m_bodies (w : World) (A : Option Addr) (n c : Nat) (l : List BodyL) (k : Nat) (h : SlS (BdAt k) 2 w A n c l) (hk : k ≤ 300000000) (hn : n ≤ 1000) (x : Int) (hx : errs bodyErr [] l = x) : Calls Tryz.prog 40 #[.slice A n c] w (RetV w (errV x)) := by
 have hnc := h.2.1
 have HX := Lib.hid (errs_start hx)
 clear hx
 go_enter Tryz.func40, Tryz.ntmps40
 go_wp2_with fail
 go_loopw [13] (fun iv wr => ∃ i : Nat, iv = .int .i64 (i : Nat) ∧ i ≤ n ∧ Hid (errs bodyErr (l.take i) (l.drop i) = x) ∧ Below w.heap.size w wr) (fun iv _ => n - (intOf iv).toNat)
 case atStart => exact ⟨0, rfl, Nat.zero_le _, HX, brefl w⟩
 case round =>
  clear HX
  obtain ⟨i, rfl, hi, HX, hb⟩ := hrel
  rename World => wa
  rcases Nat.lt_or_ge i n with hlt | hge
  ·have hi1 : ((i : Int) < (n : Int)) = True := by simp; omega
   obtain ⟨g, o, b, e, hg, _, hbi, hB⟩ := (h.bd hb).at_ hlt
   subst e
   have hstep := errs_step HX.out hbi
   obtain ⟨A', n', c', c0, c1, hM, hnm⟩ := hB
   have HR := Lib.hid (h.bd hb)
   have HM := Lib.hid hM
   have HS := Lib.hid hstep
   have HN := Lib.hid hnm
   have HB := Lib.hid hbi
   obtain ⟨v, hv⟩ : ∃ v, nameOk b.name = v := ⟨_, rfl⟩
   have HV := Lib.hid hv
   clear h hM hstep hnm hbi hv HX
   go_wp2_with fail
   (with_reducible refine (t_name _ b.name HN.out v HV.out).mono ?_); rintro e w1 ⟨rfl, hb1⟩
   have q1 := ((Below.refl _ _).alloc (Nat.le_refl _) _).trans (hb1.mono (by simp))
   have x1 : Blk w1 wa.heap.size 38 #[strV b.name, .slice A' n' c'] := (blkAt _ _ _ (by simp)).below hb1 (by simp)
   have bw1 := hb.trans (q1.mono hb.size)
   clear hb1
   cases v
   ·have h5 : x = 5 := by
     have e5 : bodyErr (l.take i) b = 5 := if_pos HV.out
     rcases HS.out with ⟨z, _⟩ | ⟨_, z⟩
     ·rw [e5] at z; cases z
     ·rw [← z, e5]
    go_wp2_with fail
    go_ret
    exact ⟨by rw [h5]; rfl, bw1⟩
   ·obtain ⟨cB0, cB1⟩ := x1.c2
    go_wp2_with fail
    clear cB0 cB1
    go_loopw [27] (fun jv w2 => ∃ j : Nat, jv = .int .i64 (j : Nat) ∧ j ≤ i ∧ Hid (twN ((l.take j).map BodyL.name) b.name = false) ∧ Below w1.heap.size w1 w2) (fun jv _ => i - (intOf jv).toNat)
    case atStart => exact ⟨0, rfl, Nat.zero_le _, Lib.hid rfl, brefl w1⟩
    case round =>
     obtain ⟨j, rfl, hj, HT, hb2⟩ := hrel
     rename World => w2
     have x2 := x1.below hb2 x1.lt
     have bw2 := bw1.trans (hb2.mono bw1.size)
     obtain ⟨cB0, cB1⟩ := x2.c2
     have hlw : wa.heap.size < w2.heap.size := x2.lt
     rcases Nat.lt_or_ge j i with hjl | hjg
     ·have hj1 : ((j : Int) < (i : Int)) = True := by simp; omega
      have hjn : j < n := by omega
      obtain ⟨a, ha, hA⟩ := ((HR.out.bd q1).bd hb2).rowAt hjn
      obtain ⟨A2, n2, c2, d0, d1, hM2, hn2⟩ := hA
      have hgw : g < w2.heap.size := by have := hb2.size; have := q1.size; omega
      clear hM2 hn2
      have hne1 : ¬ wa.heap.size = w2.heap.size := by omega
      have hne2 : ¬ g = w2.heap.size := by omega
      have htl := toList_v b.name
      by_cases heq : a.name = b.name
      ·have h6 : x = 6 := by
        have e6 : bodyErr (l.take i) b = 6 := by
         unfold bodyErr
         rw [HV.out, if_neg (by decide), if_pos (twM_hit ha hjl heq)]
        rcases HS.out with ⟨z, _⟩ | ⟨_, z⟩
        ·rw [e6] at z; cases z
        ·rw [← z, e6]
       rw [heq] at d0
       have hee : (b.name == b.name) = true := by simp
       clear heq ha
       go_wp2_with fail
       go_ret
       exact ⟨by rw [h6]; rfl, bw2.alloc bw2.size _⟩
      ·have hta := toList_v a.name
       have HT2 := Lib.hid (twM_step ha HT.out heq)
       have hee : (a.name == b.name) = false := beq_eq_false_iff_ne.2 heq
       clear heq ha HT
       go_wp2_with fail
       go_roundw
       case rel => exact ⟨j + 1, by go_num, by omega, HT2, hb2.alloc hb2.size _⟩
       case measure => simp [intOf]; omega
     ·have hj1 : ((j : Int) < (i : Int)) = False := by simp; omega
      obtain rfl : j = i := by omega
      clear cB0 cB1 c0 c1
      have hlen' : b.pts.length = n' := HM.out.1
      by_cases h8 : 8 < n'
      ·have f8 : ((8 : Int) < (n' : Int)) = True := eq_true (by omega)
       have h4 : x = 4 := by
        have e4 : bodyErr (l.take j) b = 4 := by
         unfold bodyErr
         rw [HV.out, if_neg (by decide), HT.out, if_neg (by decide), if_pos (by rw [hlen']; exact h8)]
        rcases HS.out with ⟨z, _⟩ | ⟨_, z⟩
        ·rw [e4] at z; cases z
        ·rw [← z, e4]
       obtain ⟨cB0, cB1⟩ := x2.c2
       clear hlen'
       go_wp2_with fail
       go_ret
       exact ⟨by rw [h4]; rfl, bw2⟩
      ·have f8 : ((8 : Int) < (n' : Int)) = False := eq_false (by omega)
       obtain ⟨y, hy⟩ : ∃ y, errs markErr [] b.pts = y := ⟨_, rfl⟩
       have HE : Hid (bodyErr (l.take j) b = y) := Lib.hid (by
        unfold bodyErr
        rw [HV.out, if_neg (by decide), HT.out, if_neg (by decide), if_neg (by rw [hlen']; exact h8)]
        exact hy)
       have HP := Lib.hid (errs_start hy)
       have HM2 := Lib.hid ((HM.out.mk_ q1).mk_ hb2)
       obtain ⟨cB0, cB1⟩ := x2.c2
       clear hy hlen' HV HT HM
       go_wp2_with fail
       clear cB0 cB1
       go_loopw [46] (fun pv wr => ∃ p : Nat, pv = .int .i64 (p : Nat) ∧ p ≤ n' ∧ Hid (errs markErr (b.pts.take p) (b.pts.drop p) = y) ∧ Below w2.heap.size w2 wr) (fun pv _ => n' - (intOf pv).toNat)
       case atStart => exact ⟨0, rfl, Nat.zero_le _, HP, brefl w2⟩
       case round =>
        clear HP
        obtain ⟨p, rfl, hp, HP, hb3⟩ := hrel
        rename World => w3
        have x3 := x2.below hb3 x2.lt
        have bw3 := bw2.trans (hb3.mono bw2.size)
        have hlw3 : wa.heap.size < w3.heap.size := x3.lt
        rcases Nat.lt_or_ge p n' with hpl | hpg
        ·have hp1 : ((p : Int) < (n' : Int)) = True := by simp; omega
         obtain ⟨g', o', m, e, hg', _, hmp, hMk⟩ := (HM2.out.mk_ hb3).at_ hpl
         subst e
         have hst := errs_step HP.out hmp
         obtain ⟨d0, ⟨b1, A1, n1, c1, D1, m1, e1, d1, d2, d3, hQ1⟩, ⟨b2, A2, n2, c2, D2, m2, e2, d4, d5, d6, hQ2⟩, hmn⟩ := hMk
         have d2 : w3.cell? ⟨g', o' + p * 7 + 2, none⟩ = some (.slice A1 n1 c1) := d2
         have d3 : w3.cell? ⟨g', o' + p * 7 + 3, none⟩ = some (.slice D1 m1 e1) := d3
         have d5 : w3.cell? ⟨g', o' + p * 7 + 5, none⟩ = some (.slice A2 n2 c2) := d5
         have d6 : w3.cell? ⟨g', o' + p * 7 + 6, none⟩ = some (.slice D2 m2 e2) := d6
         obtain ⟨cC0, cC1⟩ := x3.c2
         have HST := Lib.hid hst
         have HQ1 := Lib.hid hQ1
         have HQ2 := Lib.hid hQ2
         have HMN := Lib.hid hmn
         have HMP := Lib.hid hmp
         have HM3 := Lib.hid (HM2.out.mk_ hb3)
         obtain ⟨v, hv⟩ : ∃ v, nameOk m.name = v := ⟨_, rfl⟩
         have HV := Lib.hid hv
         clear hst hQ1 hQ2 hmn hmp hv HM2 HP
         go_wp2_with fail
         (with_reducible refine (t_name _ m.name HMN.out v HV.out).mono ?_); rintro e w4 ⟨rfl, hb4⟩
         have q4 := ((Below.refl _ _).alloc (Nat.le_refl _) _).trans (hb4.mono (by simp))
         have x4 : Blk w4 w3.heap.size 50 #[strV m.name, .bool b1, .slice A1 n1 c1, .slice D1 m1 e1, .bool b2, .slice A2 n2 c2, .slice D2 m2 e2] := (blkAt _ _ _ (by simp)).below hb4 (by simp)
         have x3b := x3.below q4 x3.lt
         have bw4 := bw3.trans (q4.mono bw3.size)
         clear hb4 d0 d1 d2 d3 d4 d5 d6 cC0 cC1
         have hxy : ∀ z : Int, z ≠ 0 → markErr (b.pts.take p) m = z → x = z := fun z hz hm => by
          have hy : y = z := by
           rcases HST.out with ⟨u, _⟩ | ⟨_, u⟩
           ·exact absurd (hm.symm.trans u) hz
           ·exact u.symm.trans hm
          rcases HS.out with ⟨u, _⟩ | ⟨_, u⟩
          ·exact absurd (hy.symm.trans (HE.out.symm.trans u)) hz
          ·rw [← u, HE.out, hy]
         cases v
         ·have h5 : x = 5 := hxy 5 (by decide) (if_pos HV.out)
          clear hxy
          go_wp2_with fail
          go_ret
          exact ⟨by rw [h5]; rfl, bw4⟩
         ·have HXY := Lib.hid hxy
          clear hxy
          obtain ⟨cC0, cC1⟩ := x3b.c2
          go_wp2_with fail
          clear cC0 cC1
          go_loopw [61] (fun jv wr => ∃ r : Nat, jv = .int .i64 (r : Nat) ∧ r ≤ p ∧ Hid (twN ((b.pts.take r).map MarkL.name) m.name = false) ∧ Below w4.heap.size w4 wr) (fun jv _ => p - (intOf jv).toNat)
          case atStart => exact ⟨0, rfl, Nat.zero_le _, Lib.hid rfl, brefl w4⟩
          case round =>
           obtain ⟨r, rfl, hr, HT, hb5⟩ := hrel
           rename World => w5
           have x5 := x4.below hb5 x4.lt
           have bw5 := bw4.trans (hb5.mono bw4.size)
           have cD0 := x5.cell 0
           have hlw5 : w3.heap.size < w5.heap.size := x5.lt
           rcases Nat.lt_or_ge r p with hrl | hrg
           ·have hr1 : ((r : Int) < (p : Int)) = True := by simp; omega
            have hrn : r < n' := by omega
            obtain ⟨a, ha, hA⟩ := ((HM3.out.mk_ q4).mk_ hb5).rowAt hrn
            obtain ⟨d0, ⟨b3, A3, n3, c3, D3, m3, e3, d1, d2, d3, hQ3⟩, ⟨b4, A4, n4, c4, D4, m4, e4, d4, d5, d6, hQ4⟩, hmn3⟩ := hA
            have hgw : g' < w5.heap.size := by have := hb5.size; have := q4.size; omega
            have d2 : w5.cell? ⟨g', o' + r * 7 + 2, none⟩ = some (.slice A3 n3 c3) := d2
            have d3 : w5.cell? ⟨g', o' + r * 7 + 3, none⟩ = some (.slice D3 m3 e3) := d3
            have d5 : w5.cell? ⟨g', o' + r * 7 + 5, none⟩ = some (.slice A4 n4 c4) := d5
            have d6 : w5.cell? ⟨g', o' + r * 7 + 6, none⟩ = some (.slice D4 m4 e4) := d6
            clear hQ3 hQ4 hmn3
            have hne1 : ¬ w3.heap.size = w5.heap.size := by omega
            have hne2 : ¬ g' = w5.heap.size := by omega
            have htl := toList_v m.name
            by_cases heq : a.name = m.name
            ·have h6 : x = 6 := HXY.out 6 (by decide) (by
              unfold markErr
              rw [HV.out, if_neg (by decide), if_pos (twM_hit ha hrl heq)])
             rw [heq] at d0
             have hee : (m.name == m.name) = true := by simp
             clear heq ha
             go_wp2_with fail
             go_ret
             exact ⟨by rw [h6]; rfl, bw5.alloc bw5.size _⟩
            ·have hta := toList_v a.name
             have HT2 := Lib.hid (twM_step ha HT.out heq)
             have hee : (a.name == m.name) = false := beq_eq_false_iff_ne.2 heq
             clear heq ha HT
             go_wp2_with fail
             go_roundw
             case rel => exact ⟨r + 1, by go_num, by omega, HT2, hb5.alloc hb5.size _⟩
             case measure => simp [intOf]; omega
           ·have hr1 : ((r : Int) < (p : Int)) = False := by simp; omega
            obtain rfl : r = p := by omega
            have cD1 := x5.cell 1
            have cD2 := x5.cell 2
            have cD3 := x5.cell 3
            obtain ⟨v1, hv1⟩ : ∃ v, m.x.ok = v := ⟨_, rfl⟩
            obtain ⟨v2, hv2⟩ : ∃ v, m.y.ok = v := ⟨_, rfl⟩
            have HV1 := Lib.hid hv1
            have HV2 := Lib.hid hv2
            clear hv1 hv2
            go_wp2_with fail
            (with_reducible refine (f_valid_e _ b1 A1 n1 c1 D1 m1 e1 m.x k v1 ((HQ1.out.belw q4).belw hb5) hk HV1.out).mono ?_); rintro e w6 ⟨rfl, hb6⟩
            have x6 := x5.below hb6 x5.lt
            have bw6 := bw5.trans (hb6.mono bw5.size)
            clear cD0 cD1 cD2 cD3
            have hE3 : v1 = false ∨ v2 = false → markErr (b.pts.take r) m = 3 := fun hh => by
             unfold markErr
             rw [HV.out, if_neg (by decide), HT.out, if_neg (by decide), HV1.out, HV2.out]
             rcases hh with e | e
             ·rw [e, if_pos rfl]
             ·rw [e]
              cases v1
              ·rfl
              ·rfl
            have HE3 := Lib.hid hE3
            clear hE3
            cases v1
            ·have h3 : x = 3 := HXY.out 3 (by decide) (HE3.out (.inl rfl))
             go_wp2_with fail
             go_ret
             exact ⟨by rw [h3]; rfl, bw6⟩
            ·have cE4 := x6.cell 4
             have cE5 := x6.cell 5
             have cE6 := x6.cell 6
             have hlw6 : w3.heap.size < w6.heap.size := x6.lt
             go_wp2_with fail
             (with_reducible refine (f_valid_e _ b2 A2 n2 c2 D2 m2 e2 m.y k v2 (((HQ2.out.belw q4).belw hb5).belw hb6) hk HV2.out).mono ?_); rintro e w7 ⟨rfl, hb7⟩
             have bw7 := bw6.trans (hb7.mono bw6.size)
             have hb37 : Below w2.heap.size w2 w7 := (((hb3.trans (q4.mono hb3.size)).trans (hb5.mono (Nat.le_trans hb3.size q4.size))).trans (hb6.mono (Nat.le_trans (Nat.le_trans hb3.size q4.size) hb5.size))).trans (hb7.mono (Nat.le_trans (Nat.le_trans (Nat.le_trans hb3.size q4.size) hb5.size) hb6.size))
             clear cE4 cE5 cE6
             cases v2
             ·have h3 : x = 3 := HXY.out 3 (by decide) (HE3.out (.inr rfl))
              go_wp2_with fail
              go_ret
              exact ⟨by rw [h3]; rfl, bw7⟩
             ·have h0 : markErr (b.pts.take r) m = 0 := by
               unfold markErr
               rw [HV.out, if_neg (by decide), HT.out, if_neg (by decide), HV1.out, HV2.out]
               rfl
              have HP2 : Hid (errs markErr (b.pts.take (r + 1)) (b.pts.drop (r + 1)) = y) := Lib.hid (by
               rcases HST.out with ⟨_, u⟩ | ⟨u, _⟩
               ·exact u
               ·exact absurd h0 u)
              clear h0
              go_wp2_with fail
              go_roundw
              case rel => exact ⟨r + 1, by go_num, by omega, HP2, hb37⟩
              case measure => simp [intOf]; omega
        ·have hp1 : ((p : Int) < (n' : Int)) = False := by simp; omega
         have hy0 : y = 0 := errs_end HP.out (by rw [HM2.out.1]; exact hpg)
         have HX2 : Hid (errs bodyErr (l.take (j + 1)) (l.drop (j + 1)) = x) := Lib.hid (by
          rcases HS.out with ⟨_, u⟩ | ⟨u, _⟩
          ·exact u
          ·exact absurd (HE.out.trans hy0) u)
         clear hy0
         go_wp2_with fail
         go_roundw
         case rel => exact ⟨j + 1, by go_num, by omega, HX2, bw3⟩
         case measure => simp [intOf]; omega
  ·have hi1 : ((i : Int) < (n : Int)) = False := by simp; omega
   have hx0 : x = 0 := errs_end HX.out (by rw [h.1]; exact hge)
   go_wp2_with fail
   go_ret
   exact ⟨by rw [hx0]; rfl, hb⟩
end Go.Proofs.YtckjakojllcdoaaGreatDoor

/- Walks: linkages: what is wrong with one: a joint (program). -/
namespace Go.Proofs.YtckjakojllcdoaaGreatDoor
open Go Go.RowKit Bn
attribute [local go_sem ↓] Go.wp_at_zero Go.wp_at_succ
theorem inI_t {i : Int} {n : Nat} (h : inI i n = true) : ∃ m : Nat, i = (m : Int) ∧ m < n := by
  unfold inI at h
  simp only [Bool.and_eq_true, decide_eq_true_eq] at h
  exact ⟨i.toNat, by omega, by omega⟩
theorem m_joint_7 (w : World) (A : Option Addr) (n c : Nat) (B : Option Addr) (p d : Nat) (C : Option Addr) (q e : Nat) (nm : List UInt8) (j : JointL) (h : j.kind ≠ 0 ∧ j.kind ≠ 1) :
  Calls Tryz.prog 64 #[.agg #[strV nm, .slice A n c, .slice B p d, .slice C q e], .agg #[strV j.name, .int .i64 j.kind, .int .i64 j.a, .int .i64 j.point, .int .i64 j.b, .int .i64 j.on, .int .i64 j.to_]] w (RetV w (errV 7)) := by
 have e0 : (j.kind == 0) = false := beq_eq_false_iff_ne.2 h.1
 have e1 : (j.kind == 1) = false := beq_eq_false_iff_ne.2 h.2
 have e2 : (j.kind != 0) = true := bne_iff_ne.2 h.1
 have e3 : (j.kind != 1) = true := bne_iff_ne.2 h.2
 clear h
 go_enter Tryz.func64, Tryz.ntmps64
 go_wp2_with fail
 go_ret
 exact ⟨rfl, (((brefl w).alloc (Nat.le_refl _) _).alloc (by simp) _)⟩
theorem m_joint_0 (w : World) (A : Option Addr) (n c : Nat) (B : Option Addr) (p d : Nat) (C : Option Addr) (q e : Nat) (nm : List UInt8) (j : JointL) (L : LinkL) (k : Nat) (h : SlS (BdAt k) 2 w A n c L.bodies) (hk : k ≤ 10000000) (hk1 : 0 < k) (hn : n ≤ 1000) (hk0 : j.kind = 0) (x : Int) (hx : jointE L j = x) :
  Calls Tryz.prog 64 #[.agg #[strV nm, .slice A n c, .slice B p d, .slice C q e], .agg #[strV j.name, .int .i64 j.kind, .int .i64 j.a, .int .i64 j.point, .int .i64 j.b, .int .i64 j.on, .int .i64 j.to_]] w (RetV w (errV x)) := by
 have e0 : (j.kind == 0) = true := beq_iff_eq.2 hk0
 have e2 : (j.kind != 0) = false := by rw [hk0]; rfl
 have hln := h.1
 have HX := Lib.hid hx
 have HK := Lib.hid (show ¬ (j.kind ≠ 0 ∧ j.kind ≠ 1) by rw [hk0]; decide)
 have HK0 := Lib.hid hk0
 have H := Lib.hid h
 have HL := Lib.hid hln
 obtain ⟨v1, hv1⟩ : ∃ v, inI j.a n = v := ⟨_, rfl⟩
 obtain ⟨v2, hv2⟩ : ∃ v, inI j.b n = v := ⟨_, rfl⟩
 have HV1 := Lib.hid hv1
 have HV2 := Lib.hid hv2
 clear hx hk0 h hln hv1 hv2
 go_enter Tryz.func64, Tryz.ntmps64
 go_wp2_with fail
 (with_reducible refine (m_in _ j.a n v1 HV1.out).mono ?_); rintro e' w1 ⟨rfl, hb1⟩
 have q1 := (((Below.refl _ _).alloc (Nat.le_refl _) _).alloc (by simp) _).trans (hb1.mono (by simp <;> omega))
 have x1 : Blk w1 w.heap.size 26 #[strV nm, .slice A n c, .slice B p d, .slice C q e] := ((blkAt _ _ _ (by simp)).alloc _).below hb1 (by simp <;> omega)
 have y1 : Blk w1 (w.heap.size + 1) 59 #[strV j.name, .int .i64 j.kind, .int .i64 j.a, .int .i64 j.point, .int .i64 j.b, .int .i64 j.on, .int .i64 j.to_] := (blkAt _ _ _ (by simp)).below hb1 (by simp)
 clear hb1
 cases v1
 ·have h9 : x = 9 := by rw [← HX.out]; unfold jointE; rw [if_neg HK.out, HL.out, if_pos HV1.out]
  go_wp2_with fail
  go_ret
  exact ⟨by rw [h9]; rfl, q1⟩
 have cx1 := x1.cell 1
 have cy2 := y1.cell 2
 have cy4 := y1.cell 4
 go_wp2_with fail
 (with_reducible refine (m_in _ j.b n v2 HV2.out).mono ?_); rintro e' w2 ⟨rfl, hb2⟩
 have q2 := q1.trans (hb2.mono q1.size)
 have x2 := x1.below hb2 x1.lt
 have y2 := y1.below hb2 y1.lt
 clear cx1 cy2 cy4 hb2 x1 y1
 cases v2
 ·have h9 : x = 9 := by rw [← HX.out]; unfold jointE; rw [if_neg HK.out, HL.out, if_neg (by rw [HV1.out]; decide), if_pos HV2.out]
  go_wp2_with fail
  go_ret
  exact ⟨by rw [h9]; rfl, q2⟩
 obtain ⟨an, han, hal⟩ := inI_t HV1.out
 obtain ⟨bn, hbn, hbl⟩ := inI_t HV2.out
 have HA := Lib.hid han
 have HBN := Lib.hid hbn
 have cx1 := x2.cell 1
 have cy1 := y2.cell 1
 have cy2 := y2.cell 2
 have cy3 := y2.cell 3
 have cy4 := y2.cell 4
 have cy5 := y2.cell 5
 have cy6 := y2.cell 6
 rw [han] at cy2
 rw [hbn] at cy4
 clear han hbn
 by_cases hab : an = bn
 ·have h13 : x = 13 := by
   rw [← HX.out]; unfold jointE
   rw [if_neg HK.out, HL.out, if_neg (by rw [HV1.out]; decide), if_neg (by rw [HV2.out]; decide), if_pos (by rw [HA.out, HBN.out, hab])]
  subst hab
  go_wp2_with fail
  go_ret
  exact ⟨by rw [h13]; rfl, q2⟩
 have eab : ((an : Int) == (bn : Int)) = false := beq_eq_false_iff_ne.2 (by omega)
 obtain ⟨g, o, bb, e1', hg, hnc, hbb, hBb⟩ := (H.out.bd q2).at_ hbl
 subst e1'
 obtain ⟨ab, hab', hAb⟩ := (H.out.bd q2).rowAt hal
 obtain ⟨Ab, nb, cb, k0, k1, hMb, _⟩ := hBb
 obtain ⟨Aa, na, ca, l0, l1, hMa, _⟩ := hAb
 have hpa : ptsAt L j.a = ab.pts := by unfold ptsAt; rw [HA.out]; show (match L.bodies[an]? with | some b => b.pts | none => []) = _; rw [hab']
 have hpb : ptsAt L j.b = bb.pts := by unfold ptsAt; rw [HBN.out]; show (match L.bodies[bn]? with | some b => b.pts | none => []) = _; rw [hbb]
 have hla := hMa.1
 have hlb := hMb.1
 have hbn2 : ((bn : Nat) : Int) < ((n : Nat) : Int) := by omega
 have han2 : ((an : Nat) : Int) < ((n : Nat) : Int) := by omega
 obtain ⟨v3, hv3⟩ : ∃ v, inI j.point na = v := ⟨_, rfl⟩
 obtain ⟨v4, hv4⟩ : ∃ v, inI j.on nb = v := ⟨_, rfl⟩
 have HV3 := Lib.hid hv3
 have HV4 := Lib.hid hv4
 have HMB := Lib.hid hMb
 have HPA := Lib.hid hpa
 have HPB := Lib.hid hpb
 have HLA := Lib.hid hla
 have HLB := Lib.hid hlb
 have HAB := Lib.hid (show ¬ j.a = j.b by rw [HA.out, HBN.out]; omega)
 clear hv3 hv4 hMb hMa hpa hpb hla hlb hbb hab' hab
 go_wp2_with fail
 cases v3
 ·have h9 : x = 9 := by
   rw [← HX.out]; unfold jointE
   rw [if_neg HK.out, HL.out, if_neg (by rw [HV1.out]; decide), if_neg (by rw [HV2.out]; decide), if_neg HAB.out, HPA.out, HLA.out, if_pos HV3.out]
  go_quiet ((go_at_call 65; exact Calls.quiet_of_same (m_in_q _ j.point na false HV3.out)))
  go_wp2_with fail
  go_ret
  exact ⟨by rw [h9]; rfl, below_drewN q2 _⟩
 cases v4
 ·have h9 : x = 9 := by
   rw [← HX.out]; unfold jointE
   rw [if_neg HK.out, HL.out, if_neg (by rw [HV1.out]; decide), if_neg (by rw [HV2.out]; decide), if_neg HAB.out, HPA.out, HLA.out, if_neg (by rw [HV3.out]; decide), HPB.out, HLB.out, if_pos HV4.out]
  go_quiet ((go_at_call 65; first | with_reducible exact Calls.quiet_of_same (m_in_q _ j.point na true HV3.out) | with_reducible exact Calls.quiet_of_same (m_in_q _ j.on nb false HV4.out) | fail))
  go_wp2_with fail
  go_ret
  exact ⟨by rw [h9]; rfl, below_drewN q2 _⟩
 have hX2 : x = (if j.kind = 0 then (if j.to_ = 0 then 0 else 2) else if inI j.to_ nb = false then 9 else if placeEq bb.pts j.on j.to_ = true then 8 else 0) := by
  rw [← HX.out]; unfold jointE
  rw [if_neg HK.out, HL.out, if_neg (by rw [HV1.out]; decide), if_neg (by rw [HV2.out]; decide), if_neg HAB.out, HPA.out, HLA.out, if_neg (by rw [HV3.out]; decide), HPB.out, HLB.out, if_neg (by rw [HV4.out]; decide)]
 have HX2 := Lib.hid hX2
 clear hX2
 by_cases hto : j.to_ = 0
 ·have hx : x = 0 := by rw [HX2.out, if_pos HK0.out, if_pos hto]
  have t0 : (j.to_ == 0) = true := beq_iff_eq.2 hto
  have t1 : (j.to_ != 0) = false := by rw [hto]; rfl
  clear hto
  go_quiet ((go_at_call 65; first | with_reducible exact Calls.quiet_of_same (m_in_q _ j.point na true HV3.out) | with_reducible exact Calls.quiet_of_same (m_in_q _ j.on nb true HV4.out) | fail))
  go_wp2_with fail
  go_ret
  exact ⟨by rw [hx]; rfl, below_drewN q2 _⟩
 ·have hx : x = 2 := by rw [HX2.out, if_pos HK0.out, if_neg hto]
  have t0 : (j.to_ == 0) = false := beq_eq_false_iff_ne.2 hto
  have t1 : (j.to_ != 0) = true := bne_iff_ne.2 hto
  clear hto
  go_quiet ((go_at_call 65; first | with_reducible exact Calls.quiet_of_same (m_in_q _ j.point na true HV3.out) | with_reducible exact Calls.quiet_of_same (m_in_q _ j.on nb true HV4.out) | fail))
  go_wp2_with fail
  go_ret
  exact ⟨by rw [hx]; rfl, below_drewN q2 _⟩
theorem m_joint_1 (w : World) (A : Option Addr) (n c : Nat) (B : Option Addr) (p d : Nat) (C : Option Addr) (q e : Nat) (nm : List UInt8) (j : JointL) (L : LinkL) (k : Nat) (h : SlS (BdAt k) 2 w A n c L.bodies) (hk : k ≤ 10000000) (hk1 : 0 < k) (hn : n ≤ 1000) (hk0 : j.kind = 1) (x : Int) (hx : jointE L j = x) :
  Calls Tryz.prog 64 #[.agg #[strV nm, .slice A n c, .slice B p d, .slice C q e], .agg #[strV j.name, .int .i64 j.kind, .int .i64 j.a, .int .i64 j.point, .int .i64 j.b, .int .i64 j.on, .int .i64 j.to_]] w (RetV w (errV x)) := by
 have e0 : (j.kind == 0) = false := beq_eq_false_iff_ne.2 (by rw [hk0]; decide)
 have e2 : (j.kind != 0) = true := by rw [hk0]; rfl
 have e1 : (j.kind == 1) = true := beq_iff_eq.2 hk0
 have e3 : (j.kind != 1) = false := by rw [hk0]; rfl
 have hln := h.1
 have HX := Lib.hid hx
 have HK := Lib.hid (show ¬ (j.kind ≠ 0 ∧ j.kind ≠ 1) by rw [hk0]; decide)
 have HK0 := Lib.hid hk0
 have H := Lib.hid h
 have HL := Lib.hid hln
 obtain ⟨v1, hv1⟩ : ∃ v, inI j.a n = v := ⟨_, rfl⟩
 obtain ⟨v2, hv2⟩ : ∃ v, inI j.b n = v := ⟨_, rfl⟩
 have HV1 := Lib.hid hv1
 have HV2 := Lib.hid hv2
 clear hx hk0 h hln hv1 hv2
 go_enter Tryz.func64, Tryz.ntmps64
 go_wp2_with fail
 (with_reducible refine (m_in _ j.a n v1 HV1.out).mono ?_); rintro e' w1 ⟨rfl, hb1⟩
 have q1 := (((Below.refl _ _).alloc (Nat.le_refl _) _).alloc (by simp) _).trans (hb1.mono (by simp <;> omega))
 have x1 : Blk w1 w.heap.size 26 #[strV nm, .slice A n c, .slice B p d, .slice C q e] := ((blkAt _ _ _ (by simp)).alloc _).below hb1 (by simp <;> omega)
 have y1 : Blk w1 (w.heap.size + 1) 59 #[strV j.name, .int .i64 j.kind, .int .i64 j.a, .int .i64 j.point, .int .i64 j.b, .int .i64 j.on, .int .i64 j.to_] := (blkAt _ _ _ (by simp)).below hb1 (by simp)
 clear hb1
 cases v1
 ·have h9 : x = 9 := by rw [← HX.out]; unfold jointE; rw [if_neg HK.out, HL.out, if_pos HV1.out]
  go_wp2_with fail
  go_ret
  exact ⟨by rw [h9]; rfl, q1⟩
 have cx1 := x1.cell 1
 have cy2 := y1.cell 2
 have cy4 := y1.cell 4
 go_wp2_with fail
 (with_reducible refine (m_in _ j.b n v2 HV2.out).mono ?_); rintro e' w2 ⟨rfl, hb2⟩
 have q2 := q1.trans (hb2.mono q1.size)
 have x2 := x1.below hb2 x1.lt
 have y2 := y1.below hb2 y1.lt
 clear cx1 cy2 cy4 hb2 x1 y1
 cases v2
 ·have h9 : x = 9 := by rw [← HX.out]; unfold jointE; rw [if_neg HK.out, HL.out, if_neg (by rw [HV1.out]; decide), if_pos HV2.out]
  go_wp2_with fail
  go_ret
  exact ⟨by rw [h9]; rfl, q2⟩
 obtain ⟨an, han, hal⟩ := inI_t HV1.out
 obtain ⟨bn, hbn, hbl⟩ := inI_t HV2.out
 have HA := Lib.hid han
 have HBN := Lib.hid hbn
 have cx1 := x2.cell 1
 have cy1 := y2.cell 1
 have cy2 := y2.cell 2
 have cy3 := y2.cell 3
 have cy4 := y2.cell 4
 have cy5 := y2.cell 5
 have cy6 := y2.cell 6
 rw [han] at cy2
 rw [hbn] at cy4
 clear han hbn
 by_cases hab : an = bn
 ·have h13 : x = 13 := by
   rw [← HX.out]; unfold jointE
   rw [if_neg HK.out, HL.out, if_neg (by rw [HV1.out]; decide), if_neg (by rw [HV2.out]; decide), if_pos (by rw [HA.out, HBN.out, hab])]
  subst hab
  go_wp2_with fail
  go_ret
  exact ⟨by rw [h13]; rfl, q2⟩
 have eab : ((an : Int) == (bn : Int)) = false := beq_eq_false_iff_ne.2 (by omega)
 obtain ⟨g, o, bb, e1', hg, hnc, hbb, hBb⟩ := (H.out.bd q2).at_ hbl
 subst e1'
 obtain ⟨ab, hab', hAb⟩ := (H.out.bd q2).rowAt hal
 obtain ⟨Ab, nb, cb, k0, k1, hMb, _⟩ := hBb
 obtain ⟨Aa, na, ca, l0, l1, hMa, _⟩ := hAb
 have hpa : ptsAt L j.a = ab.pts := by unfold ptsAt; rw [HA.out]; show (match L.bodies[an]? with | some b => b.pts | none => []) = _; rw [hab']
 have hpb : ptsAt L j.b = bb.pts := by unfold ptsAt; rw [HBN.out]; show (match L.bodies[bn]? with | some b => b.pts | none => []) = _; rw [hbb]
 have hla := hMa.1
 have hlb := hMb.1
 have hbn2 : ((bn : Nat) : Int) < ((n : Nat) : Int) := by omega
 have han2 : ((an : Nat) : Int) < ((n : Nat) : Int) := by omega
 obtain ⟨v3, hv3⟩ : ∃ v, inI j.point na = v := ⟨_, rfl⟩
 obtain ⟨v4, hv4⟩ : ∃ v, inI j.on nb = v := ⟨_, rfl⟩
 have HV3 := Lib.hid hv3
 have HV4 := Lib.hid hv4
 have HMB := Lib.hid hMb
 have HPA := Lib.hid hpa
 have HPB := Lib.hid hpb
 have HLA := Lib.hid hla
 have HLB := Lib.hid hlb
 have HAB := Lib.hid (show ¬ j.a = j.b by rw [HA.out, HBN.out]; omega)
 clear hv3 hv4 hMb hMa hpa hpb hla hlb hbb hab' hab
 go_wp2_with fail
 cases v3
 ·have h9 : x = 9 := by
   rw [← HX.out]; unfold jointE
   rw [if_neg HK.out, HL.out, if_neg (by rw [HV1.out]; decide), if_neg (by rw [HV2.out]; decide), if_neg HAB.out, HPA.out, HLA.out, if_pos HV3.out]
  go_quiet ((go_at_call 65; exact Calls.quiet_of_same (m_in_q _ j.point na false HV3.out)))
  go_wp2_with fail
  go_ret
  exact ⟨by rw [h9]; rfl, below_drewN q2 _⟩
 cases v4
 ·have h9 : x = 9 := by
   rw [← HX.out]; unfold jointE
   rw [if_neg HK.out, HL.out, if_neg (by rw [HV1.out]; decide), if_neg (by rw [HV2.out]; decide), if_neg HAB.out, HPA.out, HLA.out, if_neg (by rw [HV3.out]; decide), HPB.out, HLB.out, if_pos HV4.out]
  go_quiet ((go_at_call 65; first | with_reducible exact Calls.quiet_of_same (m_in_q _ j.point na true HV3.out) | with_reducible exact Calls.quiet_of_same (m_in_q _ j.on nb false HV4.out) | fail))
  go_wp2_with fail
  go_ret
  exact ⟨by rw [h9]; rfl, below_drewN q2 _⟩
 have hX2 : x = (if j.kind = 0 then (if j.to_ = 0 then 0 else 2) else if inI j.to_ nb = false then 9 else if placeEq bb.pts j.on j.to_ = true then 8 else 0) := by
  rw [← HX.out]; unfold jointE
  rw [if_neg HK.out, HL.out, if_neg (by rw [HV1.out]; decide), if_neg (by rw [HV2.out]; decide), if_neg HAB.out, HPA.out, HLA.out, if_neg (by rw [HV3.out]; decide), HPB.out, HLB.out, if_neg (by rw [HV4.out]; decide)]
 have HX2 := Lib.hid hX2
 clear hX2
 obtain ⟨v5, hv5⟩ : ∃ v, inI j.to_ nb = v := ⟨_, rfl⟩
 have HV5 := Lib.hid hv5
 clear hv5
 go_quiet ((go_at_call 65; first | with_reducible exact Calls.quiet_of_same (m_in_q _ j.point na true HV3.out) | with_reducible exact Calls.quiet_of_same (m_in_q _ j.on nb true HV4.out) | fail))
 go_wp2_with fail
 (with_reducible refine (m_in _ j.to_ nb v5 HV5.out).mono ?_); rintro e' w3 ⟨rfl, hb3⟩
 have q23 : Below w2.heap.size w2 w3 := bnext (below_drewN (brefl _) _) hb3
 have q3 := q2.trans (q23.mono q2.size)
 have x3 := x2.below q23 x2.lt
 have y3 := y2.below q23 y2.lt
 clear cx1 cy1 cy2 cy3 cy4 cy5 cy6 k0 k1 l0 l1 hb3 x2 y2
 cases v5
 ·have hx : x = 9 := by rw [HX2.out, if_neg (by rw [HK0.out]; decide), if_pos HV5.out]
  go_wp2_with fail
  go_ret
  exact ⟨by rw [hx]; rfl, q3⟩
 obtain ⟨on, hon, honl⟩ := inI_t HV4.out
 obtain ⟨tn, htn, htnl⟩ := inI_t HV5.out
 have cy5 := y3.cell 5
 have cy6 := y3.cell 6
 rw [hon] at cy5
 rw [htn] at cy6
 obtain ⟨g', o', m, e2', hg', hnc', hm, hM⟩ := (HMB.out.mk_ q23).at_ honl
 subst e2'
 obtain ⟨m', hm', hM'⟩ := (HMB.out.mk_ q23).rowAt htnl
 obtain ⟨d0, ⟨b1, A1, n1, c1, D1, m1, e1, d1, d2, d3, hQ1⟩, ⟨b2, A2, n2, c2, D2, m2, f2, d4, d5, d6, hQ2⟩, _⟩ := hM
 obtain ⟨z0, ⟨b3, A3, n3, c3, D3, m3, f3, z1, z2, z3, hQ3⟩, ⟨b4, A4, n4, c4, D4, m4, f4, z4, z5, z6, hQ4⟩, _⟩ := hM'
 have d2 : w3.cell? ⟨g', o' + on * 7 + 2, none⟩ = some (.slice A1 n1 c1) := d2
 have d3 : w3.cell? ⟨g', o' + on * 7 + 3, none⟩ = some (.slice D1 m1 e1) := d3
 have d5 : w3.cell? ⟨g', o' + on * 7 + 5, none⟩ = some (.slice A2 n2 c2) := d5
 have d6 : w3.cell? ⟨g', o' + on * 7 + 6, none⟩ = some (.slice D2 m2 f2) := d6
 have z2 : w3.cell? ⟨g', o' + tn * 7 + 2, none⟩ = some (.slice A3 n3 c3) := z2
 have z3 : w3.cell? ⟨g', o' + tn * 7 + 3, none⟩ = some (.slice D3 m3 f3) := z3
 have z5 : w3.cell? ⟨g', o' + tn * 7 + 5, none⟩ = some (.slice A4 n4 c4) := z5
 have z6 : w3.cell? ⟨g', o' + tn * 7 + 6, none⟩ = some (.slice D4 m4 f4) := z6
 have hpe : placeEq bb.pts j.on j.to_ = (decide (m.x.q = m'.x.q) && decide (m.y.q = m'.y.q)) := by
  unfold placeEq
  rw [hon, htn]
  show (match bb.pts[on]?, bb.pts[tn]? with | some p, some q => decide (p.x.q = q.x.q) && decide (p.y.q = q.y.q) | _, _ => false) = _
  rw [hm, hm']
 have HPE := Lib.hid hpe
 have HQ1 := Lib.hid hQ1
 have HQ2 := Lib.hid hQ2
 have HQ3 := Lib.hid hQ3
 have HQ4 := Lib.hid hQ4
 have hon2 : ((on : Nat) : Int) < ((nb : Nat) : Int) := by omega
 have htn2 : ((tn : Nat) : Int) < ((nb : Nat) : Int) := by omega
 obtain ⟨s1, hs1⟩ : ∃ s, rcmp m.x.q m'.x.q = s := ⟨_, rfl⟩
 obtain ⟨s2, hs2⟩ : ∃ s, rcmp m.y.q m'.y.q = s := ⟨_, rfl⟩
 have HS1 := Lib.hid hs1
 have HS2 := Lib.hid hs2
 have hl1 : w.heap.size < w3.heap.size := x3.lt
 have hl2 : w.heap.size + 1 < w3.heap.size := y3.lt
 clear hpe hQ1 hQ2 hQ3 hQ4 hs1 hs2 hm hm' hon htn
 go_wp2_with fail
 have hz : ∀ z : Bool, (decide (m.x.q = m'.x.q) && decide (m.y.q = m'.y.q)) = z → x = if z = true then 8 else 0 := fun z hz => by
  rw [HX2.out, if_neg (by rw [HK0.out]; decide), if_neg (by rw [HV5.out]; decide), HPE.out, hz]
 have HZ := Lib.hid hz
 clear hz
 go_region
 ·go_wp2_with fail
  (with_reducible refine (f_cmp_v _ b1 A1 n1 c1 D1 m1 e1 m.x.q k ?_ b3 A3 n3 c3 D3 m3 f3 m'.x.q k ?_ s1 HS1.out hk1 (by omega) hk1 (by omega)).mono ?_); (exact ((HQ1.out.qz).belw (below_drewN ((((brefl _).alloc (Nat.le_refl _) _).alloc (by simp) _)) 1))); (exact ((HQ3.out.qz).belw (below_drewN ((((brefl _).alloc (Nat.le_refl _) _).alloc (by simp) _)) 1))); rintro e' w4 ⟨rfl, hb4⟩
  have xa := (((blkAt _ _ _ (g := w3.heap.size) (by simp)).alloc _).drew).below hb4 (by simp <;> omega)
  have xb := ((blkAt _ _ _ (g := w3.heap.size + 1) (by simp)).drew).below hb4 (by simp <;> omega)
  have q4 : Below w3.heap.size w3 w4 := (below_drewN ((((brefl w3).alloc (Nat.le_refl _) _).alloc (by simp) _)) 1).trans (hb4.mono (by simp <;> omega))
  have q24 := q3.trans (q4.mono q3.size)
  have hla : w3.heap.size < w4.heap.size := xa.lt
  have hlb : w3.heap.size + 1 < w4.heap.size := xb.lt
  by_cases hs1 : s1 = 0
  ·have es : (s1 == 0) = true := beq_iff_eq.2 hs1
   have hqx : m.x.q = m'.x.q := rcmp_zero.1 (HS1.out.trans hs1)
   have HQX := Lib.hid hqx
   clear hs1 hqx
   have ca4 := xa.cell 4
   have ca5 := xa.cell 5
   have ca6 := xa.cell 6
   have cb4 := xb.cell 4
   have cb5 := xb.cell 5
   have cb6 := xb.cell 6
   go_wp2_with fail
   (with_reducible refine (f_cmp_v _ b2 A2 n2 c2 D2 m2 f2 m.y.q k ?_ b4 A4 n4 c4 D4 m4 f4 m'.y.q k ?_ s2 HS2.out hk1 (by omega) hk1 (by omega)).mono ?_); (exact (HQ2.out.qz).belw q4); (exact (HQ4.out.qz).belw q4); rintro e' w5 ⟨rfl, hb5⟩
   have q5 := q24.trans (hb5.mono q24.size)
   clear ca4 ca5 ca6 cb4 cb5 cb6
   by_cases hs2 : s2 = 0
   ·have es2 : (s2 == 0) = true := beq_iff_eq.2 hs2
    have hqy : m.y.q = m'.y.q := rcmp_zero.1 (HS2.out.trans hs2)
    have h8 : x = 8 := HZ.out true (by rw [decide_eq_true HQX.out, decide_eq_true hqy]; rfl)
    clear hs2 hqy
    go_wp2_with fail
    go_ret
    exact ⟨by rw [h8]; rfl, q5⟩
   ·have es2 : (s2 == 0) = false := beq_eq_false_iff_ne.2 hs2
    have h0 : x = 0 := HZ.out false (by rw [decide_eq_false (fun e => hs2 (HS2.out.symm.trans (rcmp_zero.2 e)))]; simp)
    clear hs2
    go_wp2_with fail
    go_ret
    exact ⟨by rw [h0]; rfl, q5⟩
  ·have es : (s1 == 0) = false := beq_eq_false_iff_ne.2 hs1
   have h0 : x = 0 := HZ.out false (by rw [decide_eq_false (fun e => hs1 (HS1.out.symm.trans (rcmp_zero.2 e)))]; rfl)
   clear hs1
   go_wp2_with fail
   go_ret
   exact ⟨by rw [h0]; rfl, q24⟩
 ·go_wp2_with fail
  (with_reducible refine (f_cmp_v _ b1 A1 n1 c1 D1 m1 e1 m.x.q k ?_ b3 A3 n3 c3 D3 m3 f3 m'.x.q k ?_ s1 HS1.out hk1 (by omega) hk1 (by omega)).mono ?_); (exact ((HQ1.out.qz).belw (below_drewN ((((brefl _).alloc (Nat.le_refl _) _).alloc (by simp) _)) 1))); (exact ((HQ3.out.qz).belw (below_drewN ((((brefl _).alloc (Nat.le_refl _) _).alloc (by simp) _)) 1))); rintro e' w4 ⟨rfl, hb4⟩
  have xa := (((blkAt _ _ _ (g := w3.heap.size) (by simp)).alloc _).drew).below hb4 (by simp <;> omega)
  have xb := ((blkAt _ _ _ (g := w3.heap.size + 1) (by simp)).drew).below hb4 (by simp <;> omega)
  have q4 : Below w3.heap.size w3 w4 := (below_drewN ((((brefl w3).alloc (Nat.le_refl _) _).alloc (by simp) _)) 1).trans (hb4.mono (by simp <;> omega))
  have q24 := q3.trans (q4.mono q3.size)
  have hla : w3.heap.size < w4.heap.size := xa.lt
  have hlb : w3.heap.size + 1 < w4.heap.size := xb.lt
  by_cases hs1 : s1 = 0
  ·have es : (s1 == 0) = true := beq_iff_eq.2 hs1
   have hqx : m.x.q = m'.x.q := rcmp_zero.1 (HS1.out.trans hs1)
   have HQX := Lib.hid hqx
   clear hs1 hqx
   have ca4 := xa.cell 4
   have ca5 := xa.cell 5
   have ca6 := xa.cell 6
   have cb4 := xb.cell 4
   have cb5 := xb.cell 5
   have cb6 := xb.cell 6
   go_wp2_with fail
   (with_reducible refine (f_cmp_v _ b2 A2 n2 c2 D2 m2 f2 m.y.q k ?_ b4 A4 n4 c4 D4 m4 f4 m'.y.q k ?_ s2 HS2.out hk1 (by omega) hk1 (by omega)).mono ?_); (exact (HQ2.out.qz).belw q4); (exact (HQ4.out.qz).belw q4); rintro e' w5 ⟨rfl, hb5⟩
   have q5 := q24.trans (hb5.mono q24.size)
   clear ca4 ca5 ca6 cb4 cb5 cb6
   by_cases hs2 : s2 = 0
   ·have es2 : (s2 == 0) = true := beq_iff_eq.2 hs2
    have hqy : m.y.q = m'.y.q := rcmp_zero.1 (HS2.out.trans hs2)
    have h8 : x = 8 := HZ.out true (by rw [decide_eq_true HQX.out, decide_eq_true hqy]; rfl)
    clear hs2 hqy
    go_wp2_with fail
    go_ret
    exact ⟨by rw [h8]; rfl, q5⟩
   ·have es2 : (s2 == 0) = false := beq_eq_false_iff_ne.2 hs2
    have h0 : x = 0 := HZ.out false (by rw [decide_eq_false (fun e => hs2 (HS2.out.symm.trans (rcmp_zero.2 e)))]; simp)
    clear hs2
    go_wp2_with fail
    go_ret
    exact ⟨by rw [h0]; rfl, q5⟩
  ·have es : (s1 == 0) = false := beq_eq_false_iff_ne.2 hs1
   have h0 : x = 0 := HZ.out false (by rw [decide_eq_false (fun e => hs1 (HS1.out.symm.trans (rcmp_zero.2 e)))]; rfl)
   clear hs1
   go_wp2_with fail
   go_ret
   exact ⟨by rw [h0]; rfl, q24⟩
end Go.Proofs.YtckjakojllcdoaaGreatDoor

/- Linkages: plain: what an accepted one has; its text. -/
namespace Go.Proofs.YtckjakojllcdoaaGreatDoor
open Go Go.RowKit Bn
theorem errs_all {α : Type} {f : List α → α → Int} : ∀ (l prev : List α), errs f prev l = 0 → ∀ a ∈ l, ∃ p, f p a = 0
  | [], _, _ => by simp
  | a :: r, prev, h => by
    unfold errs at h
    split at h
    · rename_i h0
      intro x hx
      rcases List.mem_cons.1 hx with rfl | hx
      · exact ⟨_, h0⟩
      · exact errs_all r _ h x hx
    · rename_i h0; exact absurd h h0
theorem nameOk_le {s : List UInt8} (h : nameOk s = true) : s.length ≤ 24 := by
  unfold nameOk at h
  simp at h
  omega
def MarkOk (m : MarkL) : Prop := m.name.length ≤ 24 ∧ m.x.ok = true ∧ m.y.ok = true
theorem markErr_ok {p : List MarkL} {m : MarkL} (h : markErr p m = 0) : MarkOk m := by
  unfold markErr at h
  repeat' split at h
  all_goals first | omega | skip
  rename_i h1 h2 h3 h4
  exact ⟨nameOk_le (by simpa using h1), by simpa using h3, by simpa using h4⟩
def BodyOk (b : BodyL) : Prop := b.name.length ≤ 24 ∧ b.pts.length ≤ 8 ∧ ∀ m ∈ b.pts, MarkOk m
theorem bodyErr_ok {p : List BodyL} {b : BodyL} (h : bodyErr p b = 0) : BodyOk b := by
  unfold bodyErr at h
  split at h
  · omega
  rename_i h1
  split at h
  · omega
  split at h
  · omega
  rename_i h3
  refine ⟨nameOk_le (by simpa using h1), by omega, fun m hm => ?_⟩
  obtain ⟨q, hq⟩ := errs_all _ _ h m hm
  exact markErr_ok hq
def JointOk (bs : List BodyL) (j : JointL) : Prop := j.name.length ≤ 24 ∧ ∃ (a b p o : Nat) (x y : BodyL) (m1 m2 : MarkL), j.a = (a : Nat) ∧ j.b = (b : Nat) ∧ j.point = (p : Nat) ∧ j.on = (o : Nat) ∧ bs[a]? = some x ∧ bs[b]? = some y ∧ x.pts[p]? = some m1 ∧ y.pts[o]? = some m2 ∧
  ((j.kind = 0 ∧ j.to_ = 0) ∨ (j.kind = 1 ∧ ∃ (t : Nat) (m3 : MarkL), j.to_ = (t : Nat) ∧ y.pts[t]? = some m3))
theorem inI_at {α : Type} {l : List α} {i : Int} (h : inI i l.length = true) : ∃ (n : Nat) (a : α), i = (n : Nat) ∧ l[n]? = some a := by
  obtain ⟨n, h1, h2⟩ := inI_t h
  exact ⟨n, l[n], h1, List.getElem?_eq_getElem h2⟩
theorem ptsAt_v {L : LinkL} {i : Int} {n : Nat} {b : BodyL} (h : i = (n : Nat)) (hb : L.bodies[n]? = some b) : ptsAt L i = b.pts := by
  subst h
  unfold ptsAt
  show (match L.bodies[n]? with | some b => b.pts | none => []) = _
  rw [hb]
theorem jointErr_ok {L : LinkL} {p : List JointL} {j : JointL} (h : jointErr L p j = 0) : JointOk L.bodies j := by
  unfold jointErr at h
  split at h
  · omega
  rename_i h1
  split at h
  · omega
  refine ⟨nameOk_le (by simpa using h1), ?_⟩
  unfold jointE at h
  split at h
  · omega
  rename_i hk
  split at h
  · omega
  rename_i ha
  split at h
  · omega
  rename_i hb
  split at h
  · omega
  split at h
  · omega
  rename_i hp
  split at h
  · omega
  rename_i ho
  obtain ⟨a, x, ea, hx⟩ := inI_at (by simpa using ha)
  obtain ⟨b, y, eb, hy⟩ := inI_at (by simpa using hb)
  rw [ptsAt_v ea hx] at hp
  rw [ptsAt_v eb hy] at ho
  obtain ⟨pn, m1, ep, hm1⟩ := inI_at (by simpa using hp)
  obtain ⟨on, m2, eo, hm2⟩ := inI_at (by simpa using ho)
  refine ⟨a, b, pn, on, x, y, m1, m2, ea, eb, ep, eo, hx, hy, hm1, hm2, ?_⟩
  split at h
  · rename_i h0
    split at h
    · rename_i ht; exact Or.inl ⟨h0, ht⟩
    · omega
  · rename_i h0
    split at h
    · omega
    rename_i ht
    rw [ptsAt_v eb hy] at ht
    obtain ⟨t, m3, et, hm3⟩ := inI_at (by simpa using ht)
    exact Or.inr ⟨by omega, t, m3, et, hm3⟩
def DriverOk (bs : List BodyL) (d : DriverL) : Prop := d.name.length ≤ 24 ∧ ∃ (i : Nat) (b : BodyL), d.body = (i : Nat) ∧ bs[i]? = some b
theorem driverErr_ok {bs : List BodyL} {p : List DriverL} {d : DriverL} (h : driverErr bs.length p d = 0) : DriverOk bs d := by
  unfold driverErr at h
  split at h
  · omega
  rename_i h1
  split at h
  · omega
  split at h
  · omega
  rename_i hb
  obtain ⟨i, b, e, hi⟩ := inI_at (by simpa using hb)
  exact ⟨nameOk_le (by simpa using h1), i, b, e, hi⟩
structure LkOk (L : LinkL) : Prop where
  name : L.name.length ≤ 24
  nb : L.bodies.length ≤ 8
  nj : L.joints.length ≤ 16
  nd : L.drivers.length ≤ 2
  b0 : 0 < L.bodies.length
  body : ∀ b ∈ L.bodies, BodyOk b
  joint : ∀ j ∈ L.joints, JointOk L.bodies j
  driver : ∀ d ∈ L.drivers, DriverOk L.bodies d
theorem lkErr_ok {L : LinkL} (h : lkErr L = 0) : LkOk L := by
  unfold lkErr at h
  split at h
  · omega
  rename_i h1
  split at h
  · omega
  rename_i h2
  split at h
  · omega
  rename_i h3
  split at h
  · rename_i h4; exact absurd h h4
  rename_i h4
  split at h
  · omega
  rename_i h5
  split at h
  · rename_i h6; exact absurd h h6
  rename_i h6
  split at h
  · omega
  rename_i h7
  refine ⟨nameOk_le (by simpa using h1), by omega, by omega, by omega, by omega, fun b hb => ?_, fun j hj => ?_, fun d hd => ?_⟩
  · obtain ⟨q, hq⟩ := errs_all _ _ (by simpa using h4) b hb
    exact bodyErr_ok hq
  · obtain ⟨q, hq⟩ := errs_all _ _ (by simpa using h6) j hj
    exact jointErr_ok hq
  · obtain ⟨q, hq⟩ := errs_all _ _ h d hd
    exact driverErr_ok hq
def fullT (bs : List BodyL) (i j : Int) : List UInt8 := match bs[i.toNat]? with
  | some b => (match b.pts[j.toNat]? with | some m => b.name ++ 46 :: m.name | none => [])
  | none => []
theorem fullT_v {bs : List BodyL} {i j : Nat} {b : BodyL} {m : MarkL} (hb : bs[i]? = some b) (hm : b.pts[j]? = some m) : fullT bs (i : Nat) (j : Nat) = b.name ++ 46 :: m.name := by
  unfold fullT
  show (match bs[i]? with | some b => (match b.pts[j]? with | some m => b.name ++ 46 :: m.name | none => []) | none => []) = _
  rw [hb]
  show (match b.pts[j]? with | some m => b.name ++ 46 :: m.name | none => []) = _
  rw [hm]
def nameT (bs : List BodyL) (i : Int) : List UInt8 := match bs[i.toNat]? with | some b => b.name | none => []
theorem nameT_v {bs : List BodyL} {i : Nat} {b : BodyL} (hb : bs[i]? = some b) : nameT bs (i : Nat) = b.name := by
  unfold nameT
  show (match bs[i]? with | some b => b.name | none => []) = _
  rw [hb]
def jointWords (bs : List BodyL) (j : JointL) : List (List UInt8) :=
  if j.kind = 1 then [[115, 108, 105, 100, 101], j.name, fullT bs j.a j.point, fullT bs j.b j.on, fullT bs j.b j.to_]
  else [[112, 105, 110], j.name, fullT bs j.a j.point, fullT bs j.b j.on]
def jointText (bs : List BodyL) (j : JointL) : List UInt8 := joinT (jointWords bs j) ++ [59, 10]
def driverText (bs : List BodyL) (d : DriverL) : List UInt8 := [100, 114, 105, 118, 101, 114, 32] ++ d.name ++ [32] ++ nameT bs d.body ++ [59, 10]
def headText (nm : List UInt8) : List UInt8 := [108, 105, 110, 107, 97, 103, 101, 32] ++ nm ++ [59, 10]
def lineText (b : BodyL) : List UInt8 := bodyText b ++ [10]
def lkText (L : LinkL) : List UInt8 := headText L.name ++ L.bodies.flatMap lineText ++ L.joints.flatMap (jointText L.bodies) ++ L.drivers.flatMap (driverText L.bodies)
def outErr (L : LinkL) : Int := if lkErr L ≠ 0 then lkErr L else if longL L.bodies = true ∨ 65536 < (lkText L).length then 4 else 0
def outText (L : LinkL) : List UInt8 := if outErr L = 0 then lkText L else []
theorem flat_bound {α : Type} (f : α → List UInt8) (K : Nat) : ∀ (l : List α), (∀ a ∈ l, (f a).length ≤ K) → (l.flatMap f).length ≤ K * l.length
  | [], _ => by simp
  | a :: l, h => by
    have h1 := h a (by simp)
    have h2 := flat_bound f K l fun x hx => h x (by simp [hx])
    simp only [List.flatMap_cons, List.length_append, List.length_cons, Nat.mul_add, Nat.mul_one]
    omega
theorem bodyText_len {b : BodyL} (hb : b.name.length ≤ 24) (hp : b.pts.length ≤ 8) (h : ∀ m ∈ b.pts, MkShort m) : (lineText b).length ≤ 30000 := by
  have := marks_len h
  unfold lineText bodyText
  simp only [List.length_append, List.length_cons, List.length_nil]
  omega
theorem fullT_len {bs : List BodyL} {i j : Int} (h : ∀ b ∈ bs, BodyOk b) : (fullT bs i j).length ≤ 49 := by
  unfold fullT
  split
  · rename_i b hb
    have h1 := h b (List.mem_of_getElem? hb)
    split
    · rename_i m hm
      have h2 := h1.2.2 m (List.mem_of_getElem? hm)
      have := h1.1
      have := h2.1
      simp only [List.length_append, List.length_cons]
      omega
    · simp
  · simp
theorem nameT_len {bs : List BodyL} {i : Int} (h : ∀ b ∈ bs, BodyOk b) : (nameT bs i).length ≤ 24 := by
  unfold nameT
  split
  · rename_i b hb
    exact (h b (List.mem_of_getElem? hb)).1
  · simp
theorem jointText_len {bs : List BodyL} {j : JointL} (h : ∀ b ∈ bs, BodyOk b) (hj : j.name.length ≤ 24) : (jointText bs j).length ≤ 200 := by
  have h1 := fullT_len h (i := j.a) (j := j.point)
  have h2 := fullT_len h (i := j.b) (j := j.on)
  have h3 := fullT_len h (i := j.b) (j := j.to_)
  unfold jointText jointWords
  split
  · simp only [joinT, List.length_append, List.length_cons, List.length_nil]
    omega
  · simp only [joinT, List.length_append, List.length_cons, List.length_nil]
    omega
theorem driverText_len {bs : List BodyL} {d : DriverL} (h : ∀ b ∈ bs, BodyOk b) (hd : d.name.length ≤ 24) : (driverText bs d).length ≤ 60 := by
  have h1 := nameT_len h (i := d.body)
  unfold driverText
  simp only [List.length_append, List.length_cons, List.length_nil]
  omega
end Go.Proofs.YtckjakojllcdoaaGreatDoor

/- Walks: linkages: what is wrong with one: joints, drivers, all (program). -/
namespace Go.Proofs.YtckjakojllcdoaaGreatDoor
open Go Go.RowKit Bn
attribute [local go_sem ↓] Go.wp_at_zero Go.wp_at_succ
theorem m_joint (w : World) (A : Option Addr) (n c : Nat) (B : Option Addr) (p d : Nat) (C : Option Addr) (q e : Nat) (nm : List UInt8) (j : JointL) (L : LinkL) (k : Nat) (h : SlS (BdAt k) 2 w A n c L.bodies) (hk : k ≤ 10000000) (hk1 : 0 < k) (hn : n ≤ 1000) (x : Int) (hx : jointE L j = x) :
    Calls Tryz.prog 64 #[.agg #[strV nm, .slice A n c, .slice B p d, .slice C q e], .agg #[strV j.name, .int .i64 j.kind, .int .i64 j.a, .int .i64 j.point, .int .i64 j.b, .int .i64 j.on, .int .i64 j.to_]] w (RetV w (errV x)) := by
  by_cases h0 : j.kind = 0
  · exact m_joint_0 w A n c B p d C q e nm j L k h hk hk1 hn h0 x hx
  · by_cases h1 : j.kind = 1
    · exact m_joint_1 w A n c B p d C q e nm j L k h hk hk1 hn h1 x hx
    · subst hx
      rw [show jointE L j = 7 from if_pos ⟨h0, h1⟩]
      exact m_joint_7 w A n c B p d C q e nm j ⟨h0, h1⟩
theorem m_joints (w : World) (A : Option Addr) (n c : Nat) (B : Option Addr) (p d : Nat) (C : Option Addr) (q e : Nat) (L : LinkL) (k : Nat) (h : LkS k w A n c B p d C q e L) (hk : k ≤ 10000000) (hk1 : 0 < k) (hn : n ≤ 1000) (x : Int) (hx : (if 16 < L.joints.length then 4 else errs (jointErr L) [] L.joints) = x) : Calls Tryz.prog 41 #[.agg #[strV L.name, .slice A n c, .slice B p d, .slice C q e]] w (RetV w (errV x)) := by
 have hln := h.joints.1
 have hlb := h.bodies.1
 by_cases h8 : 16 < p
 ·have f8 : ((16 : Int) < (p : Int)) = True := eq_true (by omega)
  have h4 : x = 4 := by rw [← hx, if_pos (by rw [hln]; exact h8)]
  clear hln hlb
  go_enter Tryz.func41, Tryz.ntmps41
  go_wp2_with fail
  go_ret
  exact ⟨by rw [h4]; rfl, (brefl w).alloc (Nat.le_refl _) _⟩
 have f8 : ((16 : Int) < (p : Int)) = False := eq_false (by omega)
 have hbd : p ≤ 16 := by omega
 rw [if_neg (by rw [hln]; exact h8)] at hx
 have hnc := h.joints.2.1
 have HX := Lib.hid (errs_start hx)
 have HLN := Lib.hid hln
 have HLB := Lib.hid hlb
 clear hx hln hlb h8
 go_enter Tryz.func41, Tryz.ntmps41
 go_wp2_with fail
 go_loopw [16] (fun iv wr => ∃ i : Nat, iv = .int .i64 (i : Nat) ∧ i ≤ p ∧ Hid (errs (jointErr L) (L.joints.take i) (L.joints.drop i) = x) ∧ Blk wr w.heap.size 26 #[strV L.name, .slice A n c, .slice B p d, .slice C q e] ∧ Below w.heap.size w wr) (fun iv _ => p - (intOf iv).toNat)
 case atStart => exact ⟨0, rfl, Nat.zero_le _, HX, blkAt _ _ _ (by simp), (brefl w).alloc (Nat.le_refl _) _⟩
 case round =>
  clear HX
  obtain ⟨i, rfl, hi, HX, xL, hb⟩ := hrel
  rename World => wa
  rcases Nat.lt_or_ge i p with hlt | hge
  ·have hi1 : ((i : Int) < (p : Int)) = True := by simp; omega
   have hL := h.belw hb
   obtain ⟨g, o, b, e1, hg, _, hbi, hB⟩ := hL.joints.at_ hlt
   subst e1
   have hstep := errs_step HX.out hbi
   obtain ⟨c0, c1, c2, c3, c4, c5, c6, hnm⟩ := hB
   have HL := Lib.hid hL
   have HS := Lib.hid hstep
   have HN := Lib.hid hnm
   obtain ⟨v, hv⟩ : ∃ v, nameOk b.name = v := ⟨_, rfl⟩
   have HV := Lib.hid hv
   have hlL : w.heap.size < wa.heap.size := xL.lt
   clear h hL hstep hnm hbi hv HX
   go_wp2_with fail
   (with_reducible refine (t_name _ b.name HN.out v HV.out).mono ?_); rintro e' w1 ⟨rfl, hb1⟩
   have q1 := ((Below.refl _ _).alloc (Nat.le_refl _) _).trans (hb1.mono (by simp))
   have x1 : Blk w1 wa.heap.size 59 #[strV b.name, .int .i64 b.kind, .int .i64 b.a, .int .i64 b.point, .int .i64 b.b, .int .i64 b.on, .int .i64 b.to_] := (blkAt _ _ _ (by simp)).below hb1 (by simp)
   have xL1 := xL.below q1 xL.lt
   have bw1 := hb.trans (q1.mono hb.size)
   clear hb1 c0 c1 c2 c3 c4 c5 c6
   have hxz : ∀ z : Int, z ≠ 0 → (jointErr L) (L.joints.take i) b = z → x = z := fun z hz hm => by
    rcases HS.out with ⟨u, _⟩ | ⟨_, u⟩
    ·exact absurd (hm.symm.trans u) hz
    ·exact u.symm.trans hm
   cases v
   ·have h5 : x = 5 := hxz 5 (by decide) (if_pos HV.out)
    clear hxz
    go_wp2_with fail
    go_ret
    exact ⟨by rw [h5]; rfl, bw1⟩
   ·have HXZ := Lib.hid hxz
    clear hxz
    have cL := xL1.cell 2
    go_wp2_with fail
    clear cL
    go_loopw [31] (fun jv wr => ∃ j : Nat, jv = .int .i64 (j : Nat) ∧ j ≤ i ∧ Hid (twN ((L.joints.take j).map JointL.name) b.name = false) ∧ Below w1.heap.size w1 wr) (fun jv _ => i - (intOf jv).toNat)
    case atStart => exact ⟨0, rfl, Nat.zero_le _, Lib.hid rfl, brefl w1⟩
    case round =>
     obtain ⟨j, rfl, hj, HT, hb2⟩ := hrel
     rename World => w2
     have x2 := x1.below hb2 x1.lt
     have xL2 := xL1.below hb2 xL1.lt
     have bw2 := bw1.trans (hb2.mono bw1.size)
     have cB0 := x2.cell 0
     have hlw : wa.heap.size < w2.heap.size := x2.lt
     have hlL2 : w.heap.size < w2.heap.size := xL2.lt
     rcases Nat.lt_or_ge j i with hjl | hjg
     ·have hj1 : ((j : Int) < (i : Int)) = True := by simp; omega
      have hjn : j < p := by omega
      obtain ⟨a, ha, hA⟩ := ((HL.out.joints.jt q1).jt hb2).rowAt hjn
      obtain ⟨d0, d1, d2, d3, d4, d5, d6, hn2⟩ := hA
      have hgw : g < w2.heap.size := by have := hb2.size; have := q1.size; omega
      clear hn2
      have hne1 : ¬ wa.heap.size = w2.heap.size := by omega
      have hne2 : ¬ g = w2.heap.size := by omega
      have htl := toList_v b.name
      by_cases heq : a.name = b.name
      ·have h6 : x = 6 := HXZ.out 6 (by decide) (by
        show jointErr L (L.joints.take i) b = 6
        unfold jointErr
        rw [HV.out, if_neg (by decide), if_pos (twM_hit ha hjl heq)])
       rw [heq] at d0
       have hee : (b.name == b.name) = true := by simp
       clear heq ha
       go_wp2_with fail
       go_ret
       exact ⟨by rw [h6]; rfl, bw2.alloc bw2.size _⟩
      ·have hta := toList_v a.name
       have HT2 := Lib.hid (twM_step ha HT.out heq)
       have hee : (a.name == b.name) = false := beq_eq_false_iff_ne.2 heq
       clear heq ha HT
       go_wp2_with fail
       go_roundw
       case rel => exact ⟨j + 1, by go_num, by omega, HT2, hb2.alloc hb2.size _⟩
       case measure => simp [intOf]; omega
     ·have hj1 : ((j : Int) < (i : Int)) = False := by simp; omega
      obtain rfl : j = i := by omega
      clear cB0
      have cL0 := xL2.cell 0
      have cL1 := xL2.cell 1
      have cL2 := xL2.cell 2
      have cL3 := xL2.cell 3
      have z0 := x2.cell 0
      have z1 := x2.cell 1
      have z2 := x2.cell 2
      have z3 := x2.cell 3
      have z4 := x2.cell 4
      have z5 := x2.cell 5
      have z6 := x2.cell 6
      obtain ⟨y, hy⟩ : ∃ y, jointE L b = y := ⟨_, rfl⟩
      have HE : Hid (jointErr L (L.joints.take j) b = y) := Lib.hid (by
       unfold jointErr
       rw [HV.out, if_neg (by decide), HT.out, if_neg (by decide)]; exact hy)
      have HY := Lib.hid hy
      clear hy
      go_wp2_with fail
      (with_reducible refine (m_joint _ A n c _ p d C q e L.name b L k ((HL.out.bodies.bd q1).bd hb2) hk hk1 hn y HY.out).mono ?_); rintro e' w3 ⟨rfl, hb3⟩
      have bw3 := bw2.trans (hb3.mono bw2.size)
      have xL3 := xL2.below hb3 xL2.lt
      clear cL0 cL1 cL2 cL3 z0 z1 z2 z3 z4 z5 z6
      by_cases hy0 : y = 0
      ·have HX2 : Hid (errs (jointErr L) (L.joints.take (j + 1)) (L.joints.drop (j + 1)) = x) := Lib.hid (by
        rcases HS.out with ⟨_, u⟩ | ⟨u, _⟩
        ·exact u
        ·exact absurd (HE.out.trans hy0) u)
       subst hy0
       rw [show errV 0 = .nilIface from if_pos rfl]
       go_wp2_with fail
       go_roundw
       case rel => exact ⟨j + 1, by go_num, by omega, HX2, xL3, bw3⟩
       case measure => simp [intOf]; omega
      ·have hxy : x = y := HXZ.out y hy0 HE.out
       rw [show errV y = .iface 66 (.int .i64 y) from if_neg hy0]
       go_wp2_with fail
       go_ret
       exact ⟨by rw [hxy, show errV y = .iface 66 (.int .i64 y) from if_neg hy0]; rfl, bw3⟩
  ·have hi1 : ((i : Int) < (p : Int)) = False := by simp; omega
   have hx0 : x = 0 := errs_end HX.out (by rw [HLN.out]; exact hge)
   go_wp2_with fail
   go_ret
   exact ⟨by rw [hx0]; rfl, hb⟩
theorem m_drivers (w : World) (A : Option Addr) (n c : Nat) (B : Option Addr) (p d : Nat) (C : Option Addr) (q e : Nat) (L : LinkL) (k : Nat) (h : LkS k w A n c B p d C q e L) (hk : k ≤ 10000000) (hk1 : 0 < k) (hn : n ≤ 1000) (x : Int) (hx : (if 2 < L.drivers.length then 4 else errs (driverErr n) [] L.drivers) = x) : Calls Tryz.prog 42 #[.agg #[strV L.name, .slice A n c, .slice B p d, .slice C q e]] w (RetV w (errV x)) := by
 have hln := h.drivers.1
 have hlb := h.bodies.1
 by_cases h8 : 2 < q
 ·have f8 : ((2 : Int) < (q : Int)) = True := eq_true (by omega)
  have h4 : x = 4 := by rw [← hx, if_pos (by rw [hln]; exact h8)]
  clear hln hlb
  go_enter Tryz.func42, Tryz.ntmps42
  go_wp2_with fail
  go_ret
  exact ⟨by rw [h4]; rfl, (brefl w).alloc (Nat.le_refl _) _⟩
 have f8 : ((2 : Int) < (q : Int)) = False := eq_false (by omega)
 have hbd : q ≤ 2 := by omega
 rw [if_neg (by rw [hln]; exact h8)] at hx
 have hnc := h.drivers.2.1
 have HX := Lib.hid (errs_start hx)
 have HLN := Lib.hid hln
 have HLB := Lib.hid hlb
 clear hx hln hlb h8
 go_enter Tryz.func42, Tryz.ntmps42
 go_wp2_with fail
 go_loopw [17] (fun iv wr => ∃ i : Nat, iv = .int .i64 (i : Nat) ∧ i ≤ q ∧ Hid (errs (driverErr n) (L.drivers.take i) (L.drivers.drop i) = x) ∧ Blk wr w.heap.size 26 #[strV L.name, .slice A n c, .slice B p d, .slice C q e] ∧ Below w.heap.size w wr) (fun iv _ => q - (intOf iv).toNat)
 case atStart => exact ⟨0, rfl, Nat.zero_le _, HX, blkAt _ _ _ (by simp), (brefl w).alloc (Nat.le_refl _) _⟩
 case round =>
  clear HX
  obtain ⟨i, rfl, hi, HX, xL, hb⟩ := hrel
  rename World => wa
  rcases Nat.lt_or_ge i q with hlt | hge
  ·have hi1 : ((i : Int) < (q : Int)) = True := by simp; omega
   have hL := h.belw hb
   obtain ⟨g, o, b, e1, hg, _, hbi, hB⟩ := hL.drivers.at_ hlt
   subst e1
   have hstep := errs_step HX.out hbi
   obtain ⟨c0, c1, hnm⟩ := hB
   have HL := Lib.hid hL
   have HS := Lib.hid hstep
   have HN := Lib.hid hnm
   obtain ⟨v, hv⟩ : ∃ v, nameOk b.name = v := ⟨_, rfl⟩
   have HV := Lib.hid hv
   have hlL : w.heap.size < wa.heap.size := xL.lt
   clear h hL hstep hnm hbi hv HX
   go_wp2_with fail
   (with_reducible refine (t_name _ b.name HN.out v HV.out).mono ?_); rintro e' w1 ⟨rfl, hb1⟩
   have q1 := ((Below.refl _ _).alloc (Nat.le_refl _) _).trans (hb1.mono (by simp))
   have x1 : Blk w1 wa.heap.size 64 #[strV b.name, .int .i64 b.body] := (blkAt _ _ _ (by simp)).below hb1 (by simp)
   have xL1 := xL.below q1 xL.lt
   have bw1 := hb.trans (q1.mono hb.size)
   clear hb1 c0 c1
   have hxz : ∀ z : Int, z ≠ 0 → (driverErr n) (L.drivers.take i) b = z → x = z := fun z hz hm => by
    rcases HS.out with ⟨u, _⟩ | ⟨_, u⟩
    ·exact absurd (hm.symm.trans u) hz
    ·exact u.symm.trans hm
   cases v
   ·have h5 : x = 5 := hxz 5 (by decide) (if_pos HV.out)
    clear hxz
    go_wp2_with fail
    go_ret
    exact ⟨by rw [h5]; rfl, bw1⟩
   ·have HXZ := Lib.hid hxz
    clear hxz
    have cL := xL1.cell 3
    go_wp2_with fail
    clear cL
    go_loopw [32] (fun jv wr => ∃ j : Nat, jv = .int .i64 (j : Nat) ∧ j ≤ i ∧ Hid (twN ((L.drivers.take j).map DriverL.name) b.name = false) ∧ Below w1.heap.size w1 wr) (fun jv _ => i - (intOf jv).toNat)
    case atStart => exact ⟨0, rfl, Nat.zero_le _, Lib.hid rfl, brefl w1⟩
    case round =>
     obtain ⟨j, rfl, hj, HT, hb2⟩ := hrel
     rename World => w2
     have x2 := x1.below hb2 x1.lt
     have xL2 := xL1.below hb2 xL1.lt
     have bw2 := bw1.trans (hb2.mono bw1.size)
     have cB0 := x2.cell 0
     have hlw : wa.heap.size < w2.heap.size := x2.lt
     have hlL2 : w.heap.size < w2.heap.size := xL2.lt
     rcases Nat.lt_or_ge j i with hjl | hjg
     ·have hj1 : ((j : Int) < (i : Int)) = True := by simp; omega
      have hjn : j < q := by omega
      obtain ⟨a, ha, hA⟩ := ((HL.out.drivers.dr q1).dr hb2).rowAt hjn
      obtain ⟨d0, d1, hn2⟩ := hA
      have hgw : g < w2.heap.size := by have := hb2.size; have := q1.size; omega
      clear hn2
      have hne1 : ¬ wa.heap.size = w2.heap.size := by omega
      have hne2 : ¬ g = w2.heap.size := by omega
      have htl := toList_v b.name
      by_cases heq : a.name = b.name
      ·have h6 : x = 6 := HXZ.out 6 (by decide) (by
        show driverErr n (L.drivers.take i) b = 6
        unfold driverErr
        rw [HV.out, if_neg (by decide), if_pos (twM_hit ha hjl heq)])
       rw [heq] at d0
       have hee : (b.name == b.name) = true := by simp
       clear heq ha
       go_wp2_with fail
       go_ret
       exact ⟨by rw [h6]; rfl, bw2.alloc bw2.size _⟩
      ·have hta := toList_v a.name
       have HT2 := Lib.hid (twM_step ha HT.out heq)
       have hee : (a.name == b.name) = false := beq_eq_false_iff_ne.2 heq
       clear heq ha HT
       go_wp2_with fail
       go_roundw
       case rel => exact ⟨j + 1, by go_num, by omega, HT2, hb2.alloc hb2.size _⟩
       case measure => simp [intOf]; omega
     ·have hj1 : ((j : Int) < (i : Int)) = False := by simp; omega
      obtain rfl : j = i := by omega
      clear cB0
      have cL1 := xL2.cell 1
      have z1 := x2.cell 1
      obtain ⟨v1, hv1⟩ : ∃ v, inI b.body n = v := ⟨_, rfl⟩
      have HV1 := Lib.hid hv1
      have HT9 := HT
      clear hv1
      go_wp2_with fail
      (with_reducible refine (m_in _ b.body n v1 HV1.out).mono ?_); rintro e' w3 ⟨rfl, hb3⟩
      have bw3 := bw2.trans (hb3.mono bw2.size)
      have xL3 := xL2.below hb3 xL2.lt
      have x3 := x2.below hb3 x2.lt
      clear cL1 z1
      cases v1
      ·have h9 : x = 9 := HXZ.out 9 (by decide) (by
        show driverErr n (L.drivers.take j) b = 9
        unfold driverErr
        rw [HV.out, if_neg (by decide), HT9.out, if_neg (by decide), if_pos HV1.out])
       go_wp2_with fail
       go_ret
       exact ⟨by rw [h9]; rfl, bw3⟩
      have z1 := x3.cell 1
      have cL3 := xL3.cell 3
      have hl3 : wa.heap.size < w3.heap.size := x3.lt
      by_cases hb0 : b.body = 0
      ·have e0 : (b.body == 0) = true := beq_iff_eq.2 hb0
       have h7 : x = 7 := HXZ.out 7 (by decide) (by
        show driverErr n (L.drivers.take j) b = 7
        unfold driverErr
        rw [HV.out, if_neg (by decide), HT9.out, if_neg (by decide), HV1.out, if_neg (by decide), if_pos hb0])
       clear hb0
       go_wp2_with fail
       go_ret
       exact ⟨by rw [h7]; rfl, bw3⟩
      have e0 : (b.body == 0) = false := beq_eq_false_iff_ne.2 hb0
      have HB0 := Lib.hid hb0
      clear hb0
      go_wp2_with fail
      clear z1 cL3
      go_loopw [60] (fun jv wr => ∃ r : Nat, jv = .int .i64 (r : Nat) ∧ r ≤ j ∧ Hid (((L.drivers.take r).any fun p => p.body == b.body) = false) ∧ Below w3.heap.size w3 wr) (fun jv _ => j - (intOf jv).toNat)
      case atStart => exact ⟨0, rfl, Nat.zero_le _, Lib.hid rfl, brefl w3⟩
      case round =>
       obtain ⟨r, rfl, hr, HR, hb4⟩ := hrel
       rename World => w4
       have x4 := x3.below hb4 x3.lt
       have xL4 := xL3.below hb4 xL3.lt
       have bw4 := bw3.trans (hb4.mono bw3.size)
       have z1 := x4.cell 1
       have hl4 : wa.heap.size < w4.heap.size := x4.lt
       rcases Nat.lt_or_ge r j with hrl | hrg
       ·have hr1 : ((r : Int) < (j : Int)) = True := by simp; omega
        have hrn : r < q := by omega
        obtain ⟨a, ha, hA⟩ := ((((HL.out.drivers.dr q1).dr hb2).dr hb3).dr hb4).rowAt hrn
        obtain ⟨d0, d1, hn2⟩ := hA
        have hgw : g < w4.heap.size := by have := hb4.size; have := hb3.size; have := hb2.size; have := q1.size; omega
        clear hn2
        have hne1 : ¬ wa.heap.size = w4.heap.size := by omega
        have hne2 : ¬ g = w4.heap.size := by omega
        have ht4 : L.drivers.take (r + 1) = L.drivers.take r ++ [a] := by rw [List.take_add_one, ha]; rfl
        by_cases heq : a.body = b.body
        ·have h6 : x = 6 := HXZ.out 6 (by decide) (by
          show driverErr n (L.drivers.take j) b = 6
          unfold driverErr
          rw [HV.out, if_neg (by decide), HT9.out, if_neg (by decide), HV1.out, if_neg (by decide), if_neg HB0.out, if_pos]
          rw [List.any_eq_true]
          exact ⟨a, List.mem_of_getElem? (i := r) (by rw [List.getElem?_take, if_pos hrl]; exact ha), by simpa using heq⟩)
         have hee : (a.body == b.body) = true := beq_iff_eq.2 heq
         clear heq ha ht4
         go_wp2_with fail
         go_ret
         exact ⟨by rw [h6]; rfl, bw4.alloc bw4.size _⟩
        ·have HR2 : Hid (((L.drivers.take (r + 1)).any fun p => p.body == b.body) = false) := Lib.hid (by
          rw [ht4, List.any_append, HR.out]
          simpa using heq)
         have hee : (a.body == b.body) = false := beq_eq_false_iff_ne.2 heq
         clear heq ha ht4 HR
         go_wp2_with fail
         go_roundw
         case rel => exact ⟨r + 1, by go_num, by omega, HR2, hb4.alloc hb4.size _⟩
         case measure => simp [intOf]; omega
       ·have hr1 : ((r : Int) < (j : Int)) = False := by simp; omega
        obtain rfl : r = j := by omega
        have h0 : driverErr n (L.drivers.take r) b = 0 := by
         unfold driverErr
         rw [HV.out, if_neg (by decide), HT9.out, if_neg (by decide), HV1.out, if_neg (by decide), if_neg HB0.out, HR.out]
         rfl
        have HX2 : Hid (errs (driverErr n) (L.drivers.take (r + 1)) (L.drivers.drop (r + 1)) = x) := Lib.hid (by
         rcases HS.out with ⟨_, u⟩ | ⟨u, _⟩
         ·exact u
         ·exact absurd h0 u)
        clear h0 z1
        go_wp2_with fail
        go_roundw
        case rel => exact ⟨r + 1, by go_num, by omega, HX2, xL4, bw4⟩
        case measure => simp [intOf]; omega
  ·have hi1 : ((i : Int) < (q : Int)) = False := by simp; omega
   have hx0 : x = 0 := errs_end HX.out (by rw [HLN.out]; exact hge)
   go_wp2_with fail
   go_ret
   exact ⟨by rw [hx0]; rfl, hb⟩
end Go.Proofs.YtckjakojllcdoaaGreatDoor

/- Walks: linkages: what is wrong with one (program). -/
namespace Go.Proofs.YtckjakojllcdoaaGreatDoor
open Go Go.RowKit Bn
attribute [local go_sem ↓] Go.wp_at_zero Go.wp_at_succ
theorem eVp {x : Int} (h : x ≠ 0) : errV x = .iface 66 (.int .i64 x) := if_neg h
theorem eV0 : errV 0 = .nilIface := if_pos rfl
theorem m_check (w : World) (A : Option Addr) (n c : Nat) (B : Option Addr) (p d : Nat) (C : Option Addr) (q e : Nat) (L : LinkL) (k : Nat) (h : LkS k w A n c B p d C q e L) (hk : k ≤ 10000000) (hk1 : 0 < k) (x : Int) (hx : lkErr L = x) :
  Calls Tryz.prog 20 #[.agg #[strV L.name, .slice A n c, .slice B p d, .slice C q e]] w (RetV w (errV x)) := by
 have hln := h.bodies.1
 obtain ⟨v, hv⟩ : ∃ v, nameOk L.name = v := ⟨_, rfl⟩
 have HV := Lib.hid hv
 have HX := Lib.hid hx
 have HL := Lib.hid hln
 have H := Lib.hid h
 clear hv hx hln h
 go_enter Tryz.func20, Tryz.ntmps20
 go_wp2_with fail
 (with_reducible refine (t_name _ L.name H.out.name v HV.out).mono ?_); rintro e' w1 ⟨rfl, hb1⟩
 have q1 := ((Below.refl _ _).alloc (Nat.le_refl _) _).trans (hb1.mono (by simp))
 have x1 : Blk w1 w.heap.size 26 #[strV L.name, .slice A n c, .slice B p d, .slice C q e] := (blkAt _ _ _ (by simp)).below hb1 (by simp)
 clear hb1
 cases v
 ·have h5 : x = 5 := by rw [← HX.out]; unfold lkErr; rw [if_pos HV.out]
  go_wp2_with fail
  go_ret
  exact ⟨by rw [h5]; rfl, q1⟩
 have hX1 : x = if n = 0 then 10 else if 8 < n then 4 else if errs bodyErr [] L.bodies ≠ 0 then errs bodyErr [] L.bodies
   else if 16 < L.joints.length then 4 else if errs (jointErr L) [] L.joints ≠ 0 then errs (jointErr L) [] L.joints
   else if 2 < L.drivers.length then 4 else errs (driverErr n) [] L.drivers := by
  rw [← HX.out]; unfold lkErr; rw [if_neg (by rw [HV.out]; decide), HL.out]
 obtain ⟨y1, hy1⟩ : ∃ y, errs bodyErr [] L.bodies = y := ⟨_, rfl⟩
 obtain ⟨y2, hy2⟩ : ∃ y, (if 16 < L.joints.length then (4 : Int) else errs (jointErr L) [] L.joints) = y := ⟨_, rfl⟩
 obtain ⟨y3, hy3⟩ : ∃ y, (if 2 < L.drivers.length then (4 : Int) else errs (driverErr n) [] L.drivers) = y := ⟨_, rfl⟩
 have hX2 : x = if n = 0 then 10 else if 8 < n then 4 else if y1 ≠ 0 then y1 else if y2 ≠ 0 then y2 else y3 := by
  rw [hX1, hy1, ← hy2, ← hy3]
  by_cases a : 16 < L.joints.length
  ·simp [a]
  ·simp [a]
 have HX2 := Lib.hid hX2
 have HY1 := Lib.hid hy1
 have HY2 := Lib.hid hy2
 have HY3 := Lib.hid hy3
 clear hX1 hX2 hy1 hy2 hy3
 have cx1 := x1.cell 1
 by_cases h0 : n = 0
 ·have e0 : ((n : Int) == 0) = true := beq_iff_eq.2 (by omega)
  have e00 : ((n : Int) = 0) = True := eq_true (by omega)
  have h10 : x = 10 := by rw [HX2.out, if_pos h0]
  clear h0
  go_wp2_with fail
  go_ret
  exact ⟨by rw [h10]; rfl, q1⟩
 have e0 : ((n : Int) == 0) = false := beq_eq_false_iff_ne.2 (by omega)
 have e00 : ((n : Int) = 0) = False := eq_false (by omega)
 by_cases h8 : 8 < n
 ·have e8 : ((8 : Int) < (n : Int)) = True := eq_true (by omega)
  have h4 : x = 4 := by rw [HX2.out, if_neg h0, if_pos h8]
  go_wp2_with fail
  go_ret
  exact ⟨by rw [h4]; rfl, q1⟩
 have e8 : ((8 : Int) < (n : Int)) = False := eq_false (by omega)
 have hX3 : x = if y1 ≠ 0 then y1 else if y2 ≠ 0 then y2 else y3 := by rw [HX2.out, if_neg h0, if_neg h8]
 have HX3 := Lib.hid hX3
 clear hX3 h0
 go_wp2_with fail
 (with_reducible refine (m_bodies _ A n c L.bodies k (H.out.bodies.bd q1) (by omega) (by omega) y1 HY1.out).mono ?_); rintro e' w2 ⟨rfl, hb2⟩
 have q2 := q1.trans (hb2.mono q1.size)
 have x2 := x1.below hb2 x1.lt
 clear cx1
 by_cases h1 : y1 = 0
 case neg =>
  have hxy : x = y1 := by rw [HX3.out, if_pos h1]
  rw [eVp h1]
  go_wp2_with fail
  go_ret
  exact ⟨by rw [hxy, eVp h1]; rfl, q2⟩
 have hX4 : x = if y2 ≠ 0 then y2 else y3 := by rw [HX3.out, if_neg (by simp [h1])]
 have HX4 := Lib.hid hX4
 clear hX4
 subst h1
 rw [eV0]
 have cx0 := x2.cell 0
 have cx1 := x2.cell 1
 have cx2 := x2.cell 2
 have cx3 := x2.cell 3
 go_wp2_with fail
 (with_reducible refine (m_joints _ A n c B p d C q e L k (H.out.belw q2) hk hk1 (by omega) y2 HY2.out).mono ?_); rintro e' w3 ⟨rfl, hb3⟩
 have q3 := q2.trans (hb3.mono q2.size)
 have x3 := x2.below hb3 x2.lt
 clear cx0 cx1 cx2 cx3
 by_cases h2 : y2 = 0
 case neg =>
  have hxy : x = y2 := by rw [HX4.out, if_pos h2]
  rw [eVp h2]
  go_wp2_with fail
  go_ret
  exact ⟨by rw [hxy, eVp h2]; rfl, q3⟩
 have hX5 : x = y3 := by rw [HX4.out, if_neg (by simp [h2])]
 subst hX5
 subst h2
 rw [eV0]
 have cx0 := x3.cell 0
 have cx1 := x3.cell 1
 have cx2 := x3.cell 2
 have cx3 := x3.cell 3
 go_wp2_with fail
 (with_reducible refine (m_drivers _ A n c B p d C q e L k (H.out.belw q3) hk hk1 (by omega) x HY3.out).mono ?_); rintro e' w4 ⟨rfl, hb4⟩
 have q4 := q3.trans (hb4.mono q3.size)
 clear cx0 cx1 cx2 cx3
 go_wp2_with fail
 go_ret
 exact ⟨rfl, q4⟩
end Go.Proofs.YtckjakojllcdoaaGreatDoor

/- Walks: tokens: Join of the program. -/
namespace Go.Proofs.YtckjakojllcdoaaGreatDoor
open Go Go.RowKit Bn
attribute [local go_sem ↓] Go.wp_at_zero Go.wp_at_succ
def strCs (l : List (List UInt8)) : List Value := l.map strV
theorem toL_v (l : List UInt8) : (⟨l.toArray⟩ : ByteArray).data.toList = l := by simp
theorem join18_v (w : World) (g cap n : Nat) (L : List (List UInt8)) (hL : L.length = n) (hcells : ∀ (j : Nat) x, L[j]? = some x → w.cell? ⟨g, j, none⟩ = some (strV x)) (hg : g < w.heap.size) (hN : n ≤ 140737488355328) (hcap : n ≤ cap) (hlen : (joinT L).length ≤ 140737488355328) :
    Calls Tryz.prog 23 #[.slice (some ⟨g, 0, none⟩) n cap, .string ⟨#[32]⟩] w (RetV w (strV (joinT L))) := by
  subst hL
  have e : (L.map fun x => (⟨x.toArray⟩ : ByteArray)).map (·.data.toList) = L := by
    rw [List.map_map]
    conv => rhs; rw [← List.map_id L]
    exact List.map_congr_left fun x _ => toL_v x
  have h := Tryz.strings_Join g 0 cap (L.map fun x => ⟨x.toArray⟩) ⟨#[32]⟩ w (fun j x hx => by
    rw [List.getElem?_map, Option.map_eq_some_iff] at hx
    obtain ⟨y, hy, rfl⟩ := hx
    rw [Nat.zero_add]
    exact hcells j y hy) hg (by rw [List.length_map]; exact hN) (by rw [List.length_map]; exact hcap) (by rw [e]; show (Lib.join L [32]).length ≤ _; rw [joinT_eq]; exact hlen)
  rw [List.length_map, e] at h
  refine h.mono fun e' w' ⟨he, hb⟩ => ⟨?_, hb⟩
  rw [he]
  show Ending.returned (.string ⟨(Lib.join L [32]).toArray⟩) = _
  rw [joinT_eq]
end Go.Proofs.YtckjakojllcdoaaGreatDoor

/- Walks: the text of a linkage (program). -/
namespace Go.Proofs.YtckjakojllcdoaaGreatDoor
open Go Go.RowKit Bn
attribute [local go_sem ↓] Go.wp_at_zero Go.wp_at_succ
theorem BodyOk.nm {b : BodyL} (h : BodyOk b) : b.name.length ≤ 1000 := by have := h.1; omega
theorem BodyOk.mks {b : BodyL} (h : BodyOk b) : ∀ m ∈ b.pts, m.name.length ≤ 1000 := fun m hm => by have := (h.2.2 m hm).1; omega
theorem BodyOk.np {b : BodyL} (h : BodyOk b) : b.pts.length ≤ 8 := h.2.1
theorem Sees.al {w0 w : World} (h : Below w0.heap.size w0 w) (o : Obj) : Sees w0.heap.size w0 (w.alloc o) := Sees.of (Nat.le_refl _) (h.alloc h.size o)
theorem Blk.strs {w : World} {g t : Nat} {l : List (List UInt8)} (h : Blk w g t (strCs l).toArray) (k : Nat) (x : List UInt8) (hx : l[k]? = some x) : w.cell? ⟨g, k, none⟩ = some (strV x) := by
  rw [h.cell k, List.getElem?_toArray]
  unfold strCs
  rw [List.getElem?_map, hx]
  rfl
theorem Blk.owns {w : World} {base g t n : Nat} {l : List (List UInt8)} (h : Blk w g t (strCs l).toArray) (hb : base ≤ g) (hl : l.length = n) (hn : n ≤ 1000) : w.ownsRow base t 1 (.slice (some ⟨g, 0, none⟩) n n) n (strCs l) := by
  subst hl
  exact ⟨by simp [strCs], .inr ⟨g, _, _, rfl, hb, h, Nat.le_refl _, by unfold maxLen; omega, by simp [strCs], by rw [List.take_of_length_le (by simp [strCs])]⟩⟩
theorem owns_strs {w : World} {base t n g cap : Nat} {l : List (List UInt8)} (h : w.ownsRow base t 1 (.slice (some ⟨g, 0, none⟩) n cap) n (strCs l)) : n ≤ cap ∧ ∀ (k : Nat) x, l[k]? = some x → w.cell? ⟨g, k, none⟩ = some (strV x) := by
  rcases h.2 with ⟨h1, _⟩ | ⟨g', cap', cur, h1, _, h3, h4, _, _, h7⟩
  · cases h1
  · injection h1 with h1 _ h1'
    injection h1 with h1
    injection h1 with h1
    subst h1 h1'
    refine ⟨h4, fun k x hx => ?_⟩
    rw [cell_of_row w g k cur _ (0, 0) h3]
    have h9 : (strCs l)[k]? = some (strV x) := by unfold strCs; rw [List.getElem?_map, hx]; rfl
    rw [← h7, List.getElem?_take] at h9
    split at h9
    · simpa using h9
    · cases h9
abbrev SD (g g1 g2 o2 : Nat) (a0 a1 a2 a3 : Value) (w : World) : Prop := w.cell? ⟨g, 0, none⟩ = some a0 ∧ w.cell? ⟨g, 1, none⟩ = some a1 ∧ w.cell? ⟨g1, 1, none⟩ = some a2 ∧ w.cell? ⟨g2, o2, none⟩ = some a3
theorem SlS.bodyShort {w : World} {A : Option Addr} {n c : Nat} {l : List BodyL} (h : SlS (BdAt 40) 2 w A n c l) (ho : ∀ b ∈ l, BodyOk b) : ∀ b ∈ l, ∀ m ∈ b.pts, MkShort m := by
  intro b hb
  obtain ⟨i, hi, e⟩ := List.getElem_of_mem hb
  obtain ⟨g, o, a, _, _, _, ha, hp⟩ := h.at_ (i := i) (by rw [← h.1]; exact hi)
  rw [List.getElem?_eq_getElem hi] at ha
  injection ha with ha
  rw [← ha, e] at hp
  obtain ⟨A', n', c', _, _, hM, _⟩ := hp
  exact hM.short fun m hm => by have := ((ho b hb).2.2 m hm).1; omega
theorem SlS.lineLen {w : World} {A : Option Addr} {n c : Nat} {l : List BodyL} (h : SlS (BdAt 40) 2 w A n c l) (ho : ∀ b ∈ l, BodyOk b) : ∀ b ∈ l, (lineText b).length ≤ 30000 := fun b hb => bodyText_len (ho b hb).1 (ho b hb).2.1 (h.bodyShort ho b hb)
theorem p_lk_err (w : World) (A : Option Addr) (n c : Nat) (B : Option Addr) (p d : Nat) (C : Option Addr) (q e : Nat) (L : LinkL) (h : LkS 40 w A n c B p d C q e L) (he : lkErr L ≠ 0) : Calls Tryz.prog 9 #[.agg #[strV L.name, .slice A n c, .slice B p d, .slice C q e]] w (fun e' w' => e' = .returned (.tuple #[strV [], errV (lkErr L)]) ∧ Below w.heap.size w w') := by
 obtain ⟨x, hx⟩ : ∃ x, lkErr L = x := ⟨_, rfl⟩
 rw [hx] at he ⊢
 have HX := Lib.hid hx
 have H := Lib.hid h
 have hev : errV x = .iface 66 (.int .i64 x) := if_neg he
 rw [hev]
 have HE := Lib.hid hev
 clear h hx hev
 go_enter Tryz.func9, Tryz.ntmps9
 go_wp2_with fail
 have q0 : Below w.heap.size w (w.alloc (.cells #[strV L.name, .slice A n c, .slice B p d, .slice C q e] 26)) := (brefl w).alloc (Nat.le_refl _) _
 (with_reducible refine (m_check _ A n c B p d C q e L 40 (H.out.belw q0) (by decide) (by decide) x HX.out).mono ?_); rintro e' w1 ⟨rfl, hb1⟩
 rw [HE.out]
 have q1 := q0.trans (hb1.mono q0.size)
 clear hb1
 go_wp2_with fail
 go_ret2
 exact ⟨rfl, q1⟩
theorem p_lk_ok (w : World) (A : Option Addr) (n c : Nat) (B : Option Addr) (p d : Nat) (C : Option Addr) (q e : Nat) (L : LinkL) (h : LkS 40 w A n c B p d C q e L) (htab : Tab w) (hc : lkErr L = 0) : Calls Tryz.prog 9 #[.agg #[strV L.name, .slice A n c, .slice B p d, .slice C q e]] w (fun e' w' => e' = .returned (.tuple #[strV (outText L), errV (outErr L)]) ∧ Below w.heap.size w w') := by
  have hk := lkErr_ok hc
  have hln := h.bodies.1
  have hlj := h.joints.1
  have hld := h.drivers.1
  have hnb := hk.nb
  have hnj := hk.nj
  have hnd := hk.nd
  have hb0 := hk.b0
  have hnc := h.bodies.2.1
  have hpc := h.joints.2.1
  have hqc := h.drivers.2.1
  have hnm : L.name.length ≤ 24 := hk.name
  have hsn := size_v L.name
  rw [hln] at hnb hb0
  rw [hlj] at hnj
  rw [hld] at hnd
  have hfb := flat_bound lineText 30000 L.bodies (h.bodies.lineLen hk.body)
  have hfj := flat_bound (jointText L.bodies) 200 L.joints fun j hj => jointText_len hk.body (hk.joint j hj).1
  have hfd := flat_bound (driverText L.bodies) 60 L.drivers fun d hd => driverText_len hk.body (hk.driver d hd).1
  rw [hln] at hfb
  rw [hlj] at hfj
  rw [hld] at hfd
  obtain ⟨h1, eh1⟩ : ∃ t, [108, 105, 110, 107, 97, 103, 101, 32] ++ L.name = t := ⟨_, rfl⟩
  have ah1 := app_v ([108, 105, 110, 107, 97, 103, 101, 32]) (L.name)
  rw [eh1] at ah1
  have lh1 : h1.length = 8 + L.name.length := by rw [← eh1, List.length_append]; try simp
  have kh1 : (9223372036854775807 < 8 + L.name.length) = False := eq_false (by omega)
  have zh1 := size_v h1
  obtain ⟨h2, eh2⟩ : ∃ t, h1 ++ [59, 10] = t := ⟨_, rfl⟩
  have ah2 := app_v (h1) ([59, 10])
  rw [eh2] at ah2
  have lh2 : h2.length = h1.length + 2 := by rw [← eh2, List.length_append]; try simp
  have kh2 : (9223372036854775807 < h1.length + 2) = False := eq_false (by omega)
  have zh2 := size_v h2
  have hl2 : h2.length ≤ 34 := by omega
  obtain ⟨S1, hS1⟩ : ∃ S, h2 ++ L.bodies.flatMap lineText = S := ⟨_, rfl⟩
  obtain ⟨S2, hS2⟩ : ∃ S, S1 ++ L.joints.flatMap (jointText L.bodies) = S := ⟨_, rfl⟩
  obtain ⟨S3, hS3⟩ : ∃ S, S2 ++ L.drivers.flatMap (driverText L.bodies) = S := ⟨_, rfl⟩
  have hlS1 : S1.length ≤ 34 + 30000 * n := by rw [← hS1, List.length_append]; omega
  have hlS2 : S2.length ≤ 34 + 30000 * n + 200 * p := by rw [← hS2, List.length_append]; omega
  have hlS3 : S3.length ≤ 34 + 30000 * n + 200 * p + 60 * q := by rw [← hS3, List.length_append]; omega
  have hT3 : lkText L = S3 := by
    rw [← hS3, ← hS2, ← hS1, ← eh2, ← eh1]
    unfold lkText headText
    simp
  have H := Lib.hid h
  have HK := Lib.hid hk
  have HC := Lib.hid hc
  have HTab := Lib.hid htab
  have HS1 := Lib.hid hS1
  have HS2 := Lib.hid hS2
  have HS3 := Lib.hid hS3
  have HT3 := Lib.hid hT3
  have HFB := Lib.hid hfb
  have HFJ := Lib.hid hfj
  have HFD := Lib.hid hfd
  have HLB := Lib.hid hln
  have HLJ := Lib.hid hlj
  have HLD := Lib.hid hld
  have HL1 := Lib.hid hlS1
  have HL2 := Lib.hid hlS2
  have HL3 := Lib.hid hlS3
  clear h hk hc htab hS1 hS2 hS3 hT3 hfb hfj hfd hln hlj hld eh1 eh2 lh1 lh2 hlS1 hlS2 hlS3
  go_enter Tryz.func9, Tryz.ntmps9
  go_wp2_with fail
  have q0 : Below w.heap.size w (w.alloc (.cells #[strV L.name, .slice A n c, .slice B p d, .slice C q e] 26)) := (brefl w).alloc (Nat.le_refl _) _
  have x0 : Blk (w.alloc (.cells #[strV L.name, .slice A n c, .slice B p d, .slice C q e] 26)) w.heap.size 26 #[strV L.name, .slice A n c, .slice B p d, .slice C q e] := blkAt _ _ _ rfl
  (with_reducible refine (m_check _ A n c B p d C q e L 40 (H.out.belw q0) (by decide) (by decide) 0 HC.out).mono ?_); rintro e' w1 ⟨rfl, hb1⟩
  rw [show errV 0 = .nilIface from if_pos rfl]
  have q1 := q0.trans (hb1.mono q0.size)
  have x1 := x0.below hb1 x0.lt
  have hlw1 : w.heap.size < w1.heap.size := x1.lt
  have cx0 := x1.cell 0
  clear hb1 q0 x0
  go_wp2_with fail
  clear cx0
  have B1 : Bu w1.heap.size w1.heap.size (w1.alloc (.cells #[.pointer none, .slice none 0 0] 55)) [] := Bu.new
  have qa : Below w1.heap.size w1 (w1.alloc (.cells #[.pointer none, .slice none 0 0] 55)) := (brefl w1).alloc (Nat.le_refl _) _
  have xa := x1.below qa x1.lt
  (with_reducible refine (bu_write _ _ _ _ h2 B1 (by simp only [List.length_nil]; omega)).mono ?_); rintro e' w2 ⟨rfl, B2, q2, _⟩
  rw [List.nil_append] at B2
  have q2 := qa.trans q2
  have x2 := x1.below q2 x1.lt
  have bw2 := q1.trans (q2.mono q1.size)
  have HB2 := Lib.hid B2
  have cx1 := x2.cell 1
  clear qa xa B1 B2 q1 x1
  go_wp2_with fail
  clear cx1
  go_loopw [26] (fun iv wr => ∃ i : Nat, iv = .int .i64 (i : Nat) ∧ i ≤ n ∧ Hid (Bu w1.heap.size w1.heap.size wr (h2 ++ (L.bodies.take i).flatMap lineText)) ∧ Below w1.heap.size w2 wr) (fun iv _ => n - (intOf iv).toNat)
  case atStart => exact ⟨0, rfl, Nat.zero_le _, by simpa using HB2, Below.refl _ _⟩
  case round =>
    clear HB2
    obtain ⟨i, rfl, hi, HB, hb⟩ := hrel
    rename World => wa
    have xa := x2.below hb hlw1
    have bwa := bw2.trans (hb.mono (Nat.le_of_lt hlw1))
    rcases Nat.lt_or_ge i n with hlt | hge
    · have hi1 : ((i : Int) < (n : Int)) = True := by simp; omega
      obtain ⟨g, o, b, e1, hg, _, hbi, hBd⟩ := (H.out.bodies.bd bwa).at_ hlt
      subst e1
      have hok := HK.out.body b (List.mem_of_getElem? hbi)
      have hms := (H.out.bodies.bd bwa).bodyShort HK.out.body b (List.mem_of_getElem? hbi)
      obtain ⟨A', n', c', d0, d1, hM, _⟩ := hBd
      have hfs := flat_step lineText hbi
      have hfl2 := flat_len lineText L.bodies (i + 1)
      rw [hfs, List.length_append] at hfl2
      obtain ⟨T, hT⟩ : ∃ T, bodyText b = T := ⟨_, rfl⟩
      obtain ⟨T1, hT1⟩ : ∃ t, T ++ [10] = t := ⟨_, rfl⟩
      have hlt1 : lineText b = T1 := by rw [← hT1, ← hT]; rfl
      rw [hlt1] at hfs hfl2
      have aT1 := app_v T [10]
      rw [hT1] at aT1
      have hlT : T1.length = T.length + 1 := by rw [← hT1, List.length_append]; rfl
      have h9 := HFB.out
      have kT1 : (9223372036854775807 < T.length + 1) = False := eq_false (by omega)
      have hsT := size_v T
      have hlw : (h2 ++ (L.bodies.take i).flatMap lineText).length + T1.length ≤ 140737488355328 := by rw [List.length_append]; omega
      have HW := Lib.hid hlw
      have HFS : Hid (h2 ++ (L.bodies.take (i + 1)).flatMap lineText = h2 ++ (L.bodies.take i).flatMap lineText ++ T1) := Lib.hid (by rw [hfs, List.append_assoc])
      have HT := Lib.hid hT
      have HM := Lib.hid hM
      have HOK := Lib.hid hok
      have hlen9 := hok.2.1
      rw [hM.1] at hlen9
      clear hbi hok hms hM hfs hfl2 hT hT1 hlt1 hlT h9 hlw
      have hga : g < wa.heap.size := hg
      go_wp2_with fail
      have xp : Blk (wa.alloc (.cells #[strV b.name, .slice A' n' c'] 38)) wa.heap.size 38 #[strV b.name, .slice A' n' c'] := blkAt _ _ _ rfl
      have qb : Below wa.heap.size wa (wa.alloc (.cells #[strV b.name, .slice A' n' c'] 38)) := (brefl wa).alloc (Nat.le_refl _) _
      have HBb := Lib.hid (HB.out.belw qb)
      have HTb := Lib.hid ((HTab.out.belw bwa).belw qb)
      have HMb := Lib.hid (HM.out.mk_ qb)
      have hbB : w1.heap.size < wa.heap.size := HB.out.lt
      clear HB HM d0 d1
      generalize (wa.alloc (.cells #[strV b.name, .slice A' n' c'] 38)) = wb at xp qb HBb HTb HMb ⊢
      (with_reducible refine (p_body _ A' n' c' b HMb.out HTb.out (by omega) HOK.out.nm HOK.out.mks T HT.out).mono ?_); rintro e' wc ⟨rfl, qc⟩
      have qc2 := bnext qb qc
      go_wp2_with fail
      (with_reducible refine (bu_write _ _ _ _ T1 (HBb.out.belw qc) HW.out).mono ?_); rintro e' wd ⟨rfl, Bd, qd, _⟩
      have HBd : Hid (Bu w1.heap.size w1.heap.size wd (h2 ++ (L.bodies.take (i + 1)).flatMap lineText)) := Lib.hid (by rw [HFS.out]; exact Bd)
      have bd := (hb.trans (qc2.mono (Nat.le_of_lt hbB))).trans qd
      clear Bd HFS
      go_wp2_with fail
      go_roundw
      case rel => exact ⟨i + 1, by go_num, by omega, HBd, bd⟩
      case measure => simp [intOf]; omega
    · have hi1 : ((i : Int) < (n : Int)) = False := by simp; omega
      have hin : L.bodies.take i = L.bodies := List.take_of_length_le (by rw [HLB.out]; exact hge)
      rw [hin, HS1.out] at HB
      have HB1 := HB
      have cx2 := xa.cell 2
      clear hin HB
      go_wp2_with fail
      clear cx2
      go_loopw [38] (fun iv wr => ∃ i2 : Nat, iv = .int .i64 (i2 : Nat) ∧ i2 ≤ p ∧ Hid (Bu w1.heap.size w1.heap.size wr (S1 ++ (L.joints.take i2).flatMap (jointText L.bodies))) ∧ Below w1.heap.size w2 wr) (fun iv _ => p - (intOf iv).toNat)
      case atStart => exact ⟨0, rfl, Nat.zero_le _, by simpa using HB1, hb⟩
      case round =>
        clear HB1 xa bwa hb
        obtain ⟨i2, rfl, hi2, HB, hb⟩ := hrel
        rename World => wj
        have xa := x2.below hb hlw1
        have bwa := bw2.trans (hb.mono (Nat.le_of_lt hlw1))
        rcases Nat.lt_or_ge i2 p with hlt2 | hge2
        · have hi3 : ((i2 : Int) < (p : Int)) = True := by simp; omega
          obtain ⟨g, o, j, e1, hg, _, hbi, hJt⟩ := (H.out.joints.jt bwa).at_ hlt2
          subst e1
          have hok := HK.out.joint j (List.mem_of_getElem? hbi)
          obtain ⟨hjn, ja, jb, jp, jo, x, y, m1, m2, ea, eb, ep, eo, hx, hy, hm1, hm2, hkd⟩ := hok
          obtain ⟨d0, d1, d2, d3, d4, d5, d6, _⟩ := hJt
          obtain ⟨F1, hF1⟩ : ∃ F, x.name ++ 46 :: m1.name = F := ⟨_, rfl⟩
          obtain ⟨F2, hF2⟩ : ∃ F, y.name ++ 46 :: m2.name = F := ⟨_, rfl⟩
          have hbx := HK.out.body x (List.mem_of_getElem? hx)
          have hby := HK.out.body y (List.mem_of_getElem? hy)
          have HJ1 := Lib.hid (And.intro hx (And.intro hm1 (And.intro hbx.nm (And.intro (hbx.mks m1 (List.mem_of_getElem? hm1)) hF1))))
          have HJ2 := Lib.hid (And.intro hy (And.intro hm2 (And.intro hby.nm (And.intro (hby.mks m2 (List.mem_of_getElem? hm2)) hF2))))
          have hf1 : fullT L.bodies j.a j.point = F1 := by rw [ea, ep, fullT_v hx hm1, hF1]
          have hf2 : fullT L.bodies j.b j.on = F2 := by rw [eb, eo, fullT_v hy hm2, hF2]
          have hfs := flat_step (jointText L.bodies) hbi
          have hfl2 := flat_len (jointText L.bodies) L.joints (i2 + 1)
          rw [hfs, List.length_append] at hfl2
          have hjl := jointText_len HK.out.body hjn
          rw [ea] at d2
          rw [ep] at d3
          rw [eb] at d4
          rw [eo] at d5
          have hsj := size_v j.name
          have hga : g < wj.heap.size := hg
          have h9 := HFJ.out
          have h8 := HL1.out
          have hlw : (S1 ++ (L.joints.take i2).flatMap (jointText L.bodies)).length + (jointText L.bodies j).length ≤ 140737488355328 := by rw [List.length_append]; omega
          have HW := Lib.hid hlw
          have HFS : Hid (S1 ++ (L.joints.take (i2 + 1)).flatMap (jointText L.bodies) = S1 ++ (L.joints.take i2).flatMap (jointText L.bodies) ++ jointText L.bodies j) := Lib.hid (by rw [hfs, List.append_assoc])
          have HBI := Lib.hid (And.intro hf1 (And.intro hf2 hjl))
          have HKD := Lib.hid hkd
          have HBY := Lib.hid (And.intro hy hby)
          have HEB := Lib.hid eb
          clear hF1 hF2 hx hy hm1 hm2 hbx hby hf1 hf2 hfs hfl2 hjl ea ep eb eo hbi h9 h8 hlw hkd
          go_wp2_with fail
          have xp : Blk (wj.alloc (.cells #[strV j.name, .int .i64 j.kind, .int .i64 (ja : Nat), .int .i64 (jp : Nat), .int .i64 (jb : Nat), .int .i64 (jo : Nat), .int .i64 j.to_] 59)) wj.heap.size 59 #[strV j.name, .int .i64 j.kind, .int .i64 (ja : Nat), .int .i64 (jp : Nat), .int .i64 (jb : Nat), .int .i64 (jo : Nat), .int .i64 j.to_] := blkAt _ _ _ rfl
          have qb : Below wj.heap.size wj (wj.alloc (.cells #[strV j.name, .int .i64 j.kind, .int .i64 (ja : Nat), .int .i64 (jp : Nat), .int .i64 (jb : Nat), .int .i64 (jo : Nat), .int .i64 j.to_] 59)) := (brefl wj).alloc (Nat.le_refl _) _
          have HBb := Lib.hid (HB.out.belw qb)
          have HTb := Lib.hid ((HTab.out.belw bwa).belw qb)
          have HBod := Lib.hid ((H.out.bodies.bd bwa).bd qb)
          have hbB : w1.heap.size < wj.heap.size := HB.out.lt
          have xb := xa.below qb xa.lt
          have bwb := hb.trans (qb.mono (Nat.le_of_lt hbB))
          clear HB d0 d1 d2 d3 d4 d5 d6 xa
          generalize (wj.alloc (.cells #[strV j.name, .int .i64 j.kind, .int .i64 (ja : Nat), .int .i64 (jp : Nat), .int .i64 (jb : Nat), .int .i64 (jo : Nat), .int .i64 j.to_] 59)) = wb at xp qb HBb HTb HBod xb bwb ⊢
          have hlb : wj.heap.size < wb.heap.size := xp.lt
          have hlb2 : w.heap.size < wb.heap.size := xb.lt
          obtain ⟨cp0, cp1, cp2, cp3, cp4, cp5, cp6⟩ := xp.c7
          obtain ⟨cb0, cb1, cb2, cb3⟩ := xb.c4
          go_region_held3 (fun w' => Sees wb.heap.size wb w') (first | with_reducible exact Sees.of (Nat.le_refl _) (by assumption) | with_reducible exact Sees.of (Nat.le_refl _) (brefl _).drew | with_reducible exact Sees.al (by assumption) _ | exact Sees.of (Nat.le_refl _) (below_drewN (brefl _) 1) | exact Sees.of (Nat.le_refl _) (below_drewN (by assumption) _))
            (first
              | (go_at_call 22; (with_reducible refine (p_full _ _ _ _ _ _ _ _ _ _ _ L.bodies 40 ?_ ja jp x m1 HJ1.out.1 HJ1.out.2.1 HJ1.out.2.2.1 HJ1.out.2.2.2.1 F1 HJ1.out.2.2.2.2).mono ?_); (exact HBod.out.bd (by first | exact qwf2 | exact brefl _ | exact (brefl wb).drew | exact below_drewN (brefl wb) _)); rintro e' wf1 ⟨rfl, hwf1⟩; have qwf1 : Below wb.heap.size wb wf1 := (by first | exact bnext qwf2 hwf1 | exact bnext (brefl wb) hwf1 | exact bnext (below_drewN (brefl wb) _) hwf1))
              | (go_at_call 22; (with_reducible refine (p_full _ _ _ _ _ _ _ _ _ _ _ L.bodies 40 ?_ jb jo y m2 HJ2.out.1 HJ2.out.2.1 HJ2.out.2.2.1 HJ2.out.2.2.2.1 F2 HJ2.out.2.2.2.2).mono ?_); (exact HBod.out.bd (by first | exact qwf1 | exact brefl _ | exact (brefl wb).drew | exact below_drewN (brefl wb) _)); rintro e' wf2 ⟨rfl, hwf2⟩; have qwf2 : Below wb.heap.size wb wf2 := (by first | exact bnext qwf1 hwf2 | exact bnext (brefl wb) hwf2 | exact bnext (below_drewN (brefl wb) _) hwf2)))
          all_goals
            rename_i hHeld
            clear hHeld hwf1 hwf2
            first
              | clear qwf1 wf1
              | clear qwf2 wf2
            rename World => wl
            rename Below wb.heap.size wb wl => ql
            have xs : Blk (wl.alloc (.cells #[.string ⟨#[112, 105, 110]⟩, strV j.name, strV F1, strV F2] 9)) wl.heap.size 9 (strCs [[112, 105, 110], j.name, F1, F2]).toArray := blkAt _ _ _ rfl
            have qs : Below wb.heap.size wb (wl.alloc (.cells #[.string ⟨#[112, 105, 110]⟩, strV j.name, strV F1, strV F2] 9)) := ql.alloc ql.size _
            have hgl : wb.heap.size ≤ wl.heap.size := ql.size
            clear cp0 cp1 cp2 cp3 cp4 cp5 cp6 cb0 cb1 cb2 cb3 ql
            generalize (wl.alloc (.cells #[.string ⟨#[112, 105, 110]⟩, strV j.name, strV F1, strV F2] 9)) = ws at xs qs ⊢
            have hls : wl.heap.size < ws.heap.size := xs.lt
            have xp2 := xp.below qs xp.lt
            have xb2 := xb.below qs xb.lt
            have bws := bwb.trans (qs.mono (by omega))
            have cp1 := xp2.cell 1
            rcases HKD.out with ⟨hk0, _⟩ | ⟨hk1, jt, m3, et, hm3⟩
            · have e10 : (j.kind == 1) = false := by rw [hk0]; rfl
              have hw0 : jointWords L.bodies j = [[112, 105, 110], j.name, F1, F2] := by
                unfold jointWords
                rw [if_neg (by omega), HBI.out.1, HBI.out.2.1]
              obtain ⟨J, hJ⟩ : ∃ J, joinT [[112, 105, 110], j.name, F1, F2] = J := ⟨_, rfl⟩
              obtain ⟨T, hT⟩ : ∃ T, J ++ [59, 10] = T := ⟨_, rfl⟩
              have hTT : jointText L.bodies j = T := by unfold jointText; rw [hw0, hJ, hT]
              have aT := app_v J [59, 10]
              rw [hT] at aT
              have hlT : T.length = J.length + 2 := by rw [← hT, List.length_append]; rfl
              have hl200 := HBI.out.2.2
              rw [hTT] at hl200
              have kT : (9223372036854775807 < J.length + 2) = False := eq_false (by omega)
              have hsJ := size_v J
              have hWT := HW.out
              rw [hTT] at hWT
              have HWT := Lib.hid hWT
              have HTT := Lib.hid hTT
              have HJ := Lib.hid hJ
              clear hk0 hw0 hT hTT hWT
              go_wp2_with fail
              (with_reducible refine (join18_v ws wl.heap.size 4 4 _ rfl xs.strs hls (by decide) (by decide) (by rw [HJ.out]; omega)).mono ?_); rintro e' wt ⟨rfl, qt⟩
              rw [HJ.out]
              go_wp2_with fail
              (with_reducible refine (bu_write _ _ _ _ T ((HBb.out.belw qs).belw qt) HWT.out).mono ?_); rintro e' wu ⟨rfl, Bw, qu, _⟩
              have HBu : Hid (Bu w1.heap.size w1.heap.size wu (S1 ++ (L.joints.take (i2 + 1)).flatMap (jointText L.bodies))) := Lib.hid (by rw [HFS.out, HTT.out]; exact Bw)
              have bu := (bws.trans (qt.mono (by omega))).trans qu
              clear Bw
              go_wp2_with fail
              go_roundw
              case rel => exact ⟨i2 + 1, by go_num, by omega, HBu, bu⟩
              case measure => simp [intOf]; omega
            · have e10 : (j.kind == 1) = true := by rw [hk1]; rfl
              obtain ⟨F3, hF3⟩ : ∃ F, y.name ++ 46 :: m3.name = F := ⟨_, rfl⟩
              have hby := HBY.out.2
              have HJ3 := Lib.hid (And.intro HBY.out.1 (And.intro hm3 (And.intro hby.nm (And.intro (hby.mks m3 (List.mem_of_getElem? hm3)) hF3))))
              have hw0 : jointWords L.bodies j = [[115, 108, 105, 100, 101], j.name, F1, F2, F3] := by
                unfold jointWords
                have hf3 := fullT_v HBY.out.1 hm3
                rw [if_pos hk1, HBI.out.1, HBI.out.2.1, HEB.out, et, hf3, hF3]
              have hto : ((jt : Nat) : Int) = j.to_ := et.symm
              obtain ⟨J, hJ⟩ : ∃ J, joinT [[115, 108, 105, 100, 101], j.name, F1, F2, F3] = J := ⟨_, rfl⟩
              obtain ⟨T, hT⟩ : ∃ T, J ++ [59, 10] = T := ⟨_, rfl⟩
              have hTT : jointText L.bodies j = T := by unfold jointText; rw [hw0, hJ, hT]
              have aT := app_v J [59, 10]
              rw [hT] at aT
              have hlT : T.length = J.length + 2 := by rw [← hT, List.length_append]; rfl
              have hl200 := HBI.out.2.2
              rw [hTT] at hl200
              have kT : (9223372036854775807 < J.length + 2) = False := eq_false (by omega)
              have hsJ := size_v J
              have hWT := HW.out
              rw [hTT] at hWT
              have HWT := Lib.hid hWT
              have HTT := Lib.hid hTT
              have HJ := Lib.hid hJ
              rw [et] at xp2 xp
              obtain ⟨i0, hi0, hz0, hz1, hz2⟩ := info_parts info_str
              have HI := Lib.hid (And.intro hi0 (And.intro hz0 (And.intro hz1 hz2)))
              clear hk1 hi0 hz0 hz1 hz2 et hto hm3 hF3 hby hw0 hT hTT hWT
              have xs0 := xs.cell 0
              have xf0 := xs.frozen 0
              have xs1 := xs.cell 1
              have cp4 := xp2.cell 4
              have cp6 := xp2.cell 6
              obtain ⟨cb0, cb1, cb2, cb3⟩ := xb2.c4
              have hne1 : ¬ w.heap.size = wl.heap.size := by omega
              have hne2 : ¬ wj.heap.size = wl.heap.size := by omega
              have xs5 : Blk (ws.setCell ⟨wl.heap.size, 0, none⟩ (strV [115, 108, 105, 100, 101])) wl.heap.size 9 (strCs [[115, 108, 105, 100, 101], j.name, F1, F2]).toArray := xs.set_ 0 _
              have qs5 : Below wb.heap.size wb (ws.setCell ⟨wl.heap.size, 0, none⟩ (strV [115, 108, 105, 100, 101])) := qs.setCell (p := ⟨wl.heap.size, 0, none⟩) hgl _
              clear xs
              go_wp2_with fail
              clear cb0 cb1 cb2 cb3 cp4 cp6 cp1 xs0 xs1 xf0
              generalize (ws.setCell ⟨wl.heap.size, 0, none⟩ (strV [115, 108, 105, 100, 101])) = wv at xs5 qs5 ⊢
              (with_reducible refine (p_full _ _ _ _ _ _ _ _ _ _ _ L.bodies 40 (HBod.out.bd qs5) jb jt y m3 HJ3.out.1 HJ3.out.2.1 HJ3.out.2.2.1 HJ3.out.2.2.2.1 F3 HJ3.out.2.2.2.2).mono ?_); rintro e' wt ⟨rfl, qt⟩
              have xs6 := xs5.below qt xs5.lt
              have q6 := bnext qs5 qt
              have HO := Lib.hid ((xs6.owns (n := 4) hgl rfl (by decide)).alloc (.cells #[strV F3] 9))
              go_wp2_with (at_builtin; refine wpList_append_lies _ rfl _ _ _ rfl wb.heap.size 9 i0 (.string ⟨#[]⟩) 1 16 Tryz.underlying61 HI.out.1 HI.out.2.1 HI.out.2.2.1 HI.out.2.2.2 rfl (by omega) (.slice (some ⟨wl.heap.size, 0, none⟩) 4 4) 4 (strCs [[115, 108, 105, 100, 101], j.name, F1, F2]) rfl HO.out ⟨wt.heap.size, 0, none⟩ 1 1 [_] rfl rfl (World.news_of_block (heap_alloc_new wt _)) (by simp [Value.oneCell']) (by omega) (by unfold maxLen; omega) (by omega) (by have := q6.size; simp; omega) (wt.heap.size + 1) (by simp) ?_; intro gx cap w9 hown1 hgrow hat hlt1)
              have ho5 := owns_strs (l := [[115, 108, 105, 100, 101], j.name, F1, F2, F3]) hown1
              have HO5 := Lib.hid ho5
              have b9 : Below wb.heap.size wb w9 := (q6.alloc q6.size _).grown hgrow (by have := q6.size; simp; omega) (fun k hk => by cases hk; exact hgl)
              clear ho5 hown1 hgrow hat
              (with_reducible refine (join18_v w9 gx cap 5 _ rfl HO5.out.2 hlt1 (by decide) HO5.out.1 (by rw [HJ.out]; omega)).mono ?_); rintro e' wy ⟨rfl, qy⟩
              rw [HJ.out]
              have q9 := bnext b9 qy
              go_wp2_with fail
              (with_reducible refine (bu_write _ _ _ _ T (HBb.out.belw q9) HWT.out).mono ?_); rintro e' wu ⟨rfl, Bw, qu, _⟩
              have HBu : Hid (Bu w1.heap.size w1.heap.size wu (S1 ++ (L.joints.take (i2 + 1)).flatMap (jointText L.bodies))) := Lib.hid (by rw [HFS.out, HTT.out]; exact Bw)
              have bu := (bwb.trans (q9.mono (by omega))).trans qu
              clear Bw
              go_wp2_with fail
              go_roundw
              case rel => exact ⟨i2 + 1, by go_num, by omega, HBu, bu⟩
              case measure => simp [intOf]; omega
        · have hi3 : ((i2 : Int) < (p : Int)) = False := by simp; omega
          have hin : L.joints.take i2 = L.joints := List.take_of_length_le (by rw [HLJ.out]; exact hge2)
          rw [hin, HS2.out] at HB
          have HB2 := HB
          have cx3 := xa.cell 3
          clear hin HB
          go_wp2_with fail
          clear cx3
          go_loopw [79] (fun iv wr => ∃ i3 : Nat, iv = .int .i64 (i3 : Nat) ∧ i3 ≤ q ∧ Hid (Bu w1.heap.size w1.heap.size wr (S2 ++ (L.drivers.take i3).flatMap (driverText L.bodies))) ∧ Below w1.heap.size w2 wr) (fun iv _ => q - (intOf iv).toNat)
          case atStart => exact ⟨0, rfl, Nat.zero_le _, by simpa using HB2, hb⟩
          case round =>
            clear HB2 xa bwa hb
            obtain ⟨i3, rfl, hi3', HB, hb⟩ := hrel
            rename World => wk
            have xa := x2.below hb hlw1
            have bwa := bw2.trans (hb.mono (Nat.le_of_lt hlw1))
            rcases Nat.lt_or_ge i3 q with hlt3 | hge3
            · have hi4 : ((i3 : Int) < (q : Int)) = True := by simp; omega
              obtain ⟨g, o, dv, e1, hg, _, hbi, hDr⟩ := (H.out.drivers.dr bwa).at_ hlt3
              subst e1
              obtain ⟨hdn, di, y, ei, hy⟩ := HK.out.driver dv (List.mem_of_getElem? hbi)
              have hil : di < n := by rw [← HLB.out]; exact (List.getElem?_eq_some_iff.1 hy).1
              obtain ⟨gb, ob, y', e1, hgb, _, hy', hBy⟩ := H.out.bodies.at_ hil
              rw [hy] at hy'
              injection hy' with hy'
              subst hy' e1
              obtain ⟨A', n', c', k0, k1, hM, _⟩ := hBy
              have hby := HK.out.body y (List.mem_of_getElem? hy)
              have hyn := hby.nm
              obtain ⟨d0, d1, _⟩ := hDr
              rw [ei] at d1
              have hsd := size_v dv.name
              have hsy := size_v y.name
              obtain ⟨g1, eg1⟩ : ∃ t, [100, 114, 105, 118, 101, 114, 32] ++ dv.name = t := ⟨_, rfl⟩
              have ag1 := app_v ([100, 114, 105, 118, 101, 114, 32]) (dv.name)
              rw [eg1] at ag1
              have lg1 : g1.length = 7 + dv.name.length := by rw [← eg1, List.length_append]; try simp
              have kg1 : (9223372036854775807 < 7 + dv.name.length) = False := eq_false (by omega)
              have zg1 := size_v g1
              obtain ⟨g2, eg2⟩ : ∃ t, g1 ++ [32] = t := ⟨_, rfl⟩
              have ag2 := app_v (g1) ([32])
              rw [eg2] at ag2
              have lg2 : g2.length = g1.length + 1 := by rw [← eg2, List.length_append]; try simp
              have kg2 : (9223372036854775807 < g1.length + 1) = False := eq_false (by omega)
              have zg2 := size_v g2
              obtain ⟨g3, eg3⟩ : ∃ t, g2 ++ y.name = t := ⟨_, rfl⟩
              have ag3 := app_v (g2) (y.name)
              rw [eg3] at ag3
              have lg3 : g3.length = g2.length + y.name.length := by rw [← eg3, List.length_append]; try simp
              have kg3 : (9223372036854775807 < g2.length + y.name.length) = False := eq_false (by omega)
              have zg3 := size_v g3
              obtain ⟨g4, eg4⟩ : ∃ t, g3 ++ [59, 10] = t := ⟨_, rfl⟩
              have ag4 := app_v (g3) ([59, 10])
              rw [eg4] at ag4
              have lg4 : g4.length = g3.length + 2 := by rw [← eg4, List.length_append]; try simp
              have kg4 : (9223372036854775807 < g3.length + 2) = False := eq_false (by omega)
              have zg4 := size_v g4
              have hdt : driverText L.bodies dv = g4 := by
                rw [← eg4, ← eg3, ← eg2, ← eg1]
                unfold driverText
                rw [ei, nameT_v hy]
              have hfs := flat_step (driverText L.bodies) hbi
              have hfl2 := flat_len (driverText L.bodies) L.drivers (i3 + 1)
              rw [hfs, List.length_append, hdt] at hfl2
              rw [hdt] at hfs
              have h9 := HFD.out
              have h8 := HL2.out
              have hlw : (S2 ++ (L.drivers.take i3).flatMap (driverText L.bodies)).length + g4.length ≤ 140737488355328 := by rw [List.length_append]; omega
              have HW := Lib.hid hlw
              have HFS : Hid (S2 ++ (L.drivers.take (i3 + 1)).flatMap (driverText L.bodies) = S2 ++ (L.drivers.take i3).flatMap (driverText L.bodies) ++ g4) := Lib.hid (by rw [hfs, List.append_assoc])
              have k0 := cell_belw k0 bwa
              have hga : g < wk.heap.size := hg
              clear hM k1 hby hy ei hdt hfs hfl2 h9 h8 hlw hbi lg1 lg2 lg3 lg4 eg1 eg2 eg3 eg4
              go_wp2_with fail
              have xp : Blk (wk.alloc (.cells #[strV dv.name, .int .i64 (di : Nat)] 64)) wk.heap.size 64 #[strV dv.name, .int .i64 (di : Nat)] := blkAt _ _ _ rfl
              have qb : Below wk.heap.size wk (wk.alloc (.cells #[strV dv.name, .int .i64 (di : Nat)] 64)) := (brefl wk).alloc (Nat.le_refl _) _
              have HBb := Lib.hid (HB.out.belw qb)
              have hbB : w1.heap.size < wk.heap.size := HB.out.lt
              have xb := xa.below qb xa.lt
              have bwb := hb.trans (qb.mono (Nat.le_of_lt hbB))
              have k0 := cell_belw k0 qb
              clear HB d0 d1 xa
              generalize (wk.alloc (.cells #[strV dv.name, .int .i64 (di : Nat)] 64)) = wb at xp qb HBb xb bwb k0 ⊢
              have hlb : wk.heap.size < wb.heap.size := xp.lt
              have hlb2 : w.heap.size < wb.heap.size := xb.lt
              obtain ⟨cp0, cp1⟩ := xp.c2
              have cb1 := xb.cell 1
              have f1 : ((di : Int) < (n : Int)) := by omega
              have hSb : SD wk.heap.size w.heap.size gb (ob + di * 2) (strV dv.name) (.int .i64 (di : Nat)) (.slice (some ⟨gb, ob, none⟩) n c) (strV y.name) wb := ⟨cp0, cp1, cb1, k0⟩
              go_region_held3 (SD wk.heap.size w.heap.size gb (ob + di * 2) (strV dv.name) (.int .i64 (di : Nat)) (.slice (some ⟨gb, ob, none⟩) n c) (strV y.name)) (first | assumption | exact hSb)
                (first
                  | (go_at_call 21; (with_reducible refine (bu_write _ _ _ _ g4 (HBb.out.belw (by first | exact (brefl wb).drew | exact below_drewN (brefl wb) _)) HW.out).mono ?_); rintro e' wu ⟨rfl, Bw, qu, ou⟩; have xu := ou wk.heap.size 64 _ (by omega) (by decide) xp; have qu : Below w1.heap.size wb wu := (by first | exact (Below.refl _ wb).drew.trans qu | exact (below_drewN (Below.refl _ wb) _).trans qu); have hSu : SD wk.heap.size w.heap.size gb (ob + di * 2) (strV dv.name) (.int .i64 (di : Nat)) (.slice (some ⟨gb, ob, none⟩) n c) (strV y.name) wu := ⟨xu.cell 0, xu.cell 1, (xb.below qu hlw1).cell 1, (qu.cell (p := ⟨gb, ob + di * 2, none⟩) (Nat.lt_trans hgb hlw1)).trans k0⟩))
              have HBu : Hid (Bu w1.heap.size w1.heap.size wu (S2 ++ (L.drivers.take (i3 + 1)).flatMap (driverText L.bodies))) := Lib.hid (by rw [HFS.out]; exact Bw)
              have bu := bwb.trans qu
              clear Bw cp0 cp1 cb1 k0 hSb hSu
              go_wp2_with fail
              go_roundw
              case rel => exact ⟨i3 + 1, by go_num, by omega, HBu, bu⟩
              case measure => simp [intOf]; omega
            · have hi4 : ((i3 : Int) < (q : Int)) = False := by simp; omega
              have hin : L.drivers.take i3 = L.drivers := List.take_of_length_le (by rw [HLD.out]; exact hge3)
              rw [hin, HS3.out] at HB
              clear hin
              go_wp2_with fail
              (with_reducible refine (bu_len _ _ _ S3 HB.out).mono ?_); rintro e' w9 ⟨rfl, rfl⟩
              by_cases h65 : 65536 < S3.length
              · have f65 : ((65536 : Int) < (S3.length : Int)) = True := eq_true (by omega)
                have hoE : outErr L = 4 := by unfold outErr; rw [if_neg (by rw [HC.out]; decide), if_pos (Or.inr (by rw [HT3.out]; exact h65))]
                have hoT : outText L = [] := by unfold outText; rw [if_neg (by rw [hoE]; decide)]
                have HOE := Lib.hid (And.intro hoE hoT)
                clear hoE hoT
                go_wp2_with fail
                go_ret2
                exact ⟨by rw [HOE.out.1, HOE.out.2]; rfl, bwa⟩
              · have f65 : ((65536 : Int) < (S3.length : Int)) = False := eq_false (by omega)
                have H65 := Lib.hid h65
                obtain ⟨v, hv⟩ : ∃ v, longL L.bodies = v := ⟨_, rfl⟩
                have HV := Lib.hid hv
                obtain ⟨cb0, cb1, cb2, cb3⟩ := xa.c4
                clear h65 hv
                go_wp2_with fail
                (with_reducible refine (p_long _ A n c B p d C q e L.name L.bodies (H.out.bodies.bd bwa) (HTab.out.belw bwa) (by omega) (fun b hb => by have := (HK.out.body b hb).np; omega) v HV.out).mono ?_); rintro e' wz ⟨rfl, qz⟩
                have bz := bwa.trans (qz.mono bwa.size)
                clear cb0 cb1 cb2 cb3
                cases v
                · have hoE : outErr L = 0 := by
                    unfold outErr
                    rw [if_neg (by rw [HC.out]; decide), if_neg (by rw [HT3.out, HV.out]; intro hh; rcases hh with hh | hh; exact absurd hh (by decide); exact H65.out hh)]
                  have hoT : outText L = S3 := by unfold outText; rw [if_pos hoE, HT3.out]
                  have HOE := Lib.hid (And.intro hoE hoT)
                  have HBz := Lib.hid (HB.out.belw qz)
                  clear hoE hoT
                  go_wp2_with fail
                  (with_reducible refine (bu_str _ _ _ _ HBz.out).mono ?_); rintro e' wy ⟨rfl, qy⟩
                  have by_ := bz.trans (qy.mono (Nat.le_of_lt hlw1))
                  go_wp2_with fail
                  go_ret2
                  exact ⟨by rw [HOE.out.1, HOE.out.2]; rfl, by_⟩
                · have hoE : outErr L = 4 := by unfold outErr; rw [if_neg (by rw [HC.out]; decide), if_pos (Or.inl HV.out)]
                  have hoT : outText L = [] := by unfold outText; rw [if_neg (by rw [hoE]; decide)]
                  have HOE := Lib.hid (And.intro hoE hoT)
                  clear hoE hoT
                  go_wp2_with fail
                  go_ret2
                  exact ⟨by rw [HOE.out.1, HOE.out.2]; rfl, bz⟩
end Go.Proofs.YtckjakojllcdoaaGreatDoor

/- Walks: linkages: what is wrong with one (reference). -/
namespace Go.Proofs.YtckjakojllcdoaaGreatDoor
open Go Go.RowKit Bn
attribute [local go_sem ↓] Go.wp_at_zero Go.wp_at_succ
theorem r_ix_q (w : World) (i : Int) (n : Nat) (v : Bool) (hv : inI i n = v) : Calls Tryz.prog 70 #[.int .i64 i, .int .i64 (n : Nat)] w (fun e w' => e = .returned (.bool v) ∧ w' = w) := by
 subst hv
 by_cases h1 : 0 ≤ i
 ·by_cases h2 : i < (n : Int)
  ·have e : inI i n = true := by unfold inI; simp [h1, h2]
   rw [e]
   have f1 : (0 ≤ i) = True := eq_true h1
   have f2 : (i < (n : Int)) = True := eq_true h2
   go_enter Tryz.func70, Tryz.ntmps70
   go_wp2_with fail
   go_ret
   exact ⟨rfl, rfl⟩
  ·have e : inI i n = false := by unfold inI; simp [h2]
   rw [e]
   have f1 : (0 ≤ i) = True := eq_true h1
   have f2 : (i < (n : Int)) = False := eq_false h2
   go_enter Tryz.func70, Tryz.ntmps70
   go_wp2_with fail
   go_ret
   exact ⟨rfl, rfl⟩
 ·have e : inI i n = false := by unfold inI; simp [h1]
  rw [e]
  have f1 : (0 ≤ i) = False := eq_false h1
  go_enter Tryz.func70, Tryz.ntmps70
  go_wp2_with fail
  go_ret
  exact ⟨rfl, rfl⟩
theorem r_ix (w : World) (i : Int) (n : Nat) (v : Bool) (hv : inI i n = v) : Calls Tryz.prog 70 #[.int .i64 i, .int .i64 (n : Nat)] w (RetV w (.bool v)) := (r_ix_q w i n v hv).mono fun _ _ ⟨h1, h2⟩ => ⟨h1, h2 ▸ brefl _⟩
theorem r_points (w : World) (A : Option Addr) (n c : Nat) (b : BodyL) (k : Nat) (h : SlS (MkAt k) 7 w A n c b.pts) (hk : k ≤ 300000000) (x : Int) (hx : (if 8 < b.pts.length then 4 else errs markErr [] b.pts) = x) : Calls Tryz.prog 69 #[.agg #[strV b.name, .slice A n c]] w (RetV w (.int .i64 x)) := by
 have hln := h.1
 by_cases h8 : 8 < n
 ·have f8 : ((8 : Int) < (n : Int)) = True := eq_true (by omega)
  have h4 : x = 4 := by rw [← hx, if_pos (by rw [hln]; exact h8)]
  clear hln
  go_enter Tryz.func69, Tryz.ntmps69
  go_wp2_with fail
  go_ret
  exact ⟨by rw [h4]; rfl, (brefl w).alloc (Nat.le_refl _) _⟩
 have f8 : ((8 : Int) < (n : Int)) = False := eq_false (by omega)
 have hbd : n ≤ 8 := by omega
 rw [if_neg (by rw [hln]; exact h8)] at hx
 have hnc := h.2.1
 have HX := Lib.hid (errs_start hx)
 have HLN := Lib.hid hln
 clear hx hln h8
 go_enter Tryz.func69, Tryz.ntmps69
 go_wp2_with fail
 go_loopw [3] (fun iv wr => ∃ i : Nat, iv = .int .i64 (i : Nat) ∧ i ≤ n ∧ Hid (errs markErr (b.pts.take i) (b.pts.drop i) = x) ∧ Blk wr w.heap.size 38 #[strV b.name, .slice A n c] ∧ Below w.heap.size w wr) (fun iv _ => n - (intOf iv).toNat)
 case atStart => exact ⟨0, rfl, Nat.zero_le _, HX, blkAt _ _ _ (by simp), (brefl w).alloc (Nat.le_refl _) _⟩
 case round =>
  clear HX
  obtain ⟨p, rfl, hp, HP, xB, hb3⟩ := hrel
  rename World => w3
  obtain ⟨cB0, cB1⟩ := xB.c2
  have hlB : w.heap.size < w3.heap.size := xB.lt
  rcases Nat.lt_or_ge p n with hpl | hpg
  ·have hp1 : ((p : Int) < (n : Int)) = True := by simp; omega
   have HM3 := Lib.hid (h.mk_ hb3)
   obtain ⟨g', o', m, e, hg', _, hmp, hMk⟩ := HM3.out.at_ hpl
   subst e
   have hst := errs_step HP.out hmp
   obtain ⟨d0, ⟨b1, A1, n1, c1, D1, m1, e1, d1, d2, d3, hQ1⟩, ⟨b2, A2, n2, c2, D2, m2, e2, d4, d5, d6, hQ2⟩, hmn⟩ := hMk
   have d2 : w3.cell? ⟨g', o' + p * 7 + 2, none⟩ = some (.slice A1 n1 c1) := d2
   have d3 : w3.cell? ⟨g', o' + p * 7 + 3, none⟩ = some (.slice D1 m1 e1) := d3
   have d5 : w3.cell? ⟨g', o' + p * 7 + 5, none⟩ = some (.slice A2 n2 c2) := d5
   have d6 : w3.cell? ⟨g', o' + p * 7 + 6, none⟩ = some (.slice D2 m2 e2) := d6
   have HST := Lib.hid hst
   have HQ1 := Lib.hid hQ1
   have HQ2 := Lib.hid hQ2
   have HMN := Lib.hid hmn
   have hpn : ((p : Int) < (n : Int)) := by omega
   obtain ⟨v, hv⟩ : ∃ v, nameOk m.name = v := ⟨_, rfl⟩
   have HV := Lib.hid hv
   clear hst hQ1 hQ2 hmn hmp hv h HP
   go_wp2_with fail
   (with_reducible refine (r_name _ m.name HMN.out v HV.out).mono ?_); rintro e w4 ⟨rfl, hb4⟩
   have q4 := ((Below.refl _ _).alloc (Nat.le_refl _) _).trans (hb4.mono (by simp))
   have x4 : Blk w4 w3.heap.size 50 #[strV m.name, .bool b1, .slice A1 n1 c1, .slice D1 m1 e1, .bool b2, .slice A2 n2 c2, .slice D2 m2 e2] := (blkAt _ _ _ (by simp)).below hb4 (by simp)
   have xB4 := xB.below q4 xB.lt
   have bw4 := hb3.trans (q4.mono hb3.size)
   clear hb4 d0 d1 d2 d3 d4 d5 d6 cB0 cB1
   have hxz : ∀ z : Int, z ≠ 0 → markErr (b.pts.take p) m = z → x = z := fun z hz hm => by
    rcases HST.out with ⟨u, _⟩ | ⟨_, u⟩
    ·exact absurd (hm.symm.trans u) hz
    ·exact u.symm.trans hm
   have HXZ := Lib.hid hxz
   clear hxz
   cases v
   ·have h5 : x = 5 := HXZ.out 5 (by decide) (if_pos HV.out)
    go_wp2_with fail
    go_ret
    exact ⟨by rw [h5]; rfl, bw4⟩
   go_wp2_with fail
   go_loopw [5] (fun jv wr => ∃ r : Nat, jv = .int .i64 (r : Nat) ∧ r ≤ p ∧ Hid (twN ((b.pts.take r).map MarkL.name) m.name = false) ∧ Below w4.heap.size w4 wr) (fun jv _ => p - (intOf jv).toNat)
   case atStart => exact ⟨0, rfl, Nat.zero_le _, Lib.hid rfl, brefl w4⟩
   case round =>
    obtain ⟨r, rfl, hr, HT, hb5⟩ := hrel
    rename World => w5
    have x5 := x4.below hb5 x4.lt
    have xB5 := xB4.below hb5 xB4.lt
    have bw5 := bw4.trans (hb5.mono bw4.size)
    have cD0 := x5.cell 0
    rcases Nat.lt_or_ge r p with hrl | hrg
    ·have hr1 : ((r : Int) < (p : Int)) = True := by simp; omega
     have hrn : r < n := by omega
     obtain ⟨a, ha, hA⟩ := ((HM3.out.mk_ q4).mk_ hb5).rowAt hrn
     obtain ⟨d0, _, _, _⟩ := hA
     obtain ⟨cB0, cB1⟩ := xB5.c2
     have hrn2 : ((r : Int) < (n : Int)) := by omega
     have htl := toList_v m.name
     by_cases heq : a.name = m.name
     ·have h6 : x = 6 := HXZ.out 6 (by decide) (by
       unfold markErr
       rw [HV.out, if_neg (by decide), if_pos (twM_hit ha hrl heq)])
      rw [heq] at d0
      have hee : (m.name == m.name) = true := by simp
      clear heq ha
      go_wp2_with fail
      go_quiet (fail)
      go_wp2_with fail
      go_ret
      exact ⟨by rw [h6]; rfl, below_drewN bw5 _⟩
     ·have hta := toList_v a.name
      have HT2 := Lib.hid (twM_step ha HT.out heq)
      have hee : (a.name == m.name) = false := beq_eq_false_iff_ne.2 heq
      clear heq ha HT
      go_wp2_with fail
      go_quiet (fail)
      go_wp2_with fail
      go_roundw
      case rel => exact ⟨r + 1, by go_num, by omega, HT2, below_drewN hb5 _⟩
      case measure => simp [intOf]; omega
    ·have hr1 : ((r : Int) < (p : Int)) = False := by simp; omega
     obtain rfl : r = p := by omega
     have cD1 := x5.cell 1
     have cD2 := x5.cell 2
     have cD3 := x5.cell 3
     obtain ⟨v1, hv1⟩ : ∃ v, m.x.ok = v := ⟨_, rfl⟩
     obtain ⟨v2, hv2⟩ : ∃ v, m.y.ok = v := ⟨_, rfl⟩
     have HV1 := Lib.hid hv1
     have HV2 := Lib.hid hv2
     clear hv1 hv2
     go_wp2_with fail
     (with_reducible refine (g_valid_e _ b1 A1 n1 c1 D1 m1 e1 m.x k v1 ((HQ1.out.belw q4).belw hb5) hk HV1.out).mono ?_); rintro e w6 ⟨rfl, hb6⟩
     have x6 := x5.below hb6 x5.lt
     have xB6 := xB5.below hb6 xB5.lt
     have bw6 := bw5.trans (hb6.mono bw5.size)
     clear cD0 cD1 cD2 cD3
     have hE3 : v1 = false ∨ v2 = false → markErr (b.pts.take r) m = 3 := fun hh => by
      unfold markErr
      rw [HV.out, if_neg (by decide), HT.out, if_neg (by decide), HV1.out, HV2.out]
      rcases hh with e | e
      ·rw [e, if_pos rfl]
      ·rw [e]
       cases v1
       ·rfl
       ·rfl
     have HE3 := Lib.hid hE3
     clear hE3
     cases v1
     ·have h3 : x = 3 := HXZ.out 3 (by decide) (HE3.out (.inl rfl))
      go_wp2_with fail
      go_ret
      exact ⟨by rw [h3]; rfl, bw6⟩
     have cE4 := x6.cell 4
     have cE5 := x6.cell 5
     have cE6 := x6.cell 6
     go_wp2_with fail
     (with_reducible refine (g_valid_e _ b2 A2 n2 c2 D2 m2 e2 m.y k v2 (((HQ2.out.belw q4).belw hb5).belw hb6) hk HV2.out).mono ?_); rintro e w7 ⟨rfl, hb7⟩
     have bw7 := bw6.trans (hb7.mono bw6.size)
     have xB7 := xB6.below hb7 xB6.lt
     clear cE4 cE5 cE6
     cases v2
     ·have h3 : x = 3 := HXZ.out 3 (by decide) (HE3.out (.inr rfl))
      go_wp2_with fail
      go_ret
      exact ⟨by rw [h3]; rfl, bw7⟩
     have h0 : markErr (b.pts.take r) m = 0 := by
      unfold markErr
      rw [HV.out, if_neg (by decide), HT.out, if_neg (by decide), HV1.out, HV2.out]
      rfl
     have HP2 : Hid (errs markErr (b.pts.take (r + 1)) (b.pts.drop (r + 1)) = x) := Lib.hid (by
      rcases HST.out with ⟨_, u⟩ | ⟨u, _⟩
      ·exact u
      ·exact absurd h0 u)
     clear h0
     go_wp2_with fail
     go_roundw
     case rel => exact ⟨r + 1, by go_num, by omega, HP2, xB7, bw7⟩
     case measure => simp [intOf]; omega
  ·have hp1 : ((p : Int) < (n : Int)) = False := by simp; omega
   have hx0 : x = 0 := errs_end HP.out (by rw [HLN.out]; exact hpg)
   go_wp2_with fail
   go_ret
   exact ⟨by rw [hx0]; rfl, hb3⟩
end Go.Proofs.YtckjakojllcdoaaGreatDoor

/- Walks: linkages: what is wrong with one (reference): bodies, joints, drivers, all. -/
namespace Go.Proofs.YtckjakojllcdoaaGreatDoor
open Go Go.RowKit Bn
attribute [local go_sem ↓] Go.wp_at_zero Go.wp_at_succ
theorem r_bodies (w : World) (A : Option Addr) (n c : Nat) (B : Option Addr) (p d : Nat) (C : Option Addr) (q e : Nat) (L : LinkL) (k : Nat) (h : LkS k w A n c B p d C q e L) (hk : k ≤ 10000000) (hn : n ≤ 8) (x : Int) (hx : errs bodyErr [] L.bodies = x) : Calls Tryz.prog 46 #[.agg #[strV L.name, .slice A n c, .slice B p d, .slice C q e]] w (RetV w (.int .i64 x)) := by
 have HX := Lib.hid (errs_start hx)
 have hnc := h.bodies.2.1
 have HLN := Lib.hid h.bodies.1
 clear hx
 go_enter Tryz.func46, Tryz.ntmps46
 go_wp2_with fail
 go_loopw [3] (fun iv wr => ∃ i : Nat, iv = .int .i64 (i : Nat) ∧ i ≤ n ∧ Hid (errs bodyErr (L.bodies.take i) (L.bodies.drop i) = x) ∧ Blk wr w.heap.size 26 #[strV L.name, .slice A n c, .slice B p d, .slice C q e] ∧ Below w.heap.size w wr) (fun iv _ => n - (intOf iv).toNat)
 case atStart => exact ⟨0, rfl, Nat.zero_le _, HX, blkAt _ _ _ (by simp), (brefl w).alloc (Nat.le_refl _) _⟩
 case round =>
  clear HX
  obtain ⟨i, rfl, hi, HX, xL, hb⟩ := hrel
  rename World => wa
  have cL1 := xL.cell 1
  rcases Nat.lt_or_ge i n with hlt | hge
  ·have hi1 : ((i : Int) < (n : Int)) = True := by simp; omega
   have hR := (h.belw hb).bodies
   obtain ⟨g, o, b, e1, hg, _, hbi, hB⟩ := hR.at_ hlt
   subst e1
   have hstep := errs_step HX.out hbi
   obtain ⟨A', n', c', c0, c1, hM, hnm⟩ := hB
   have HR := Lib.hid hR
   have HM := Lib.hid hM
   have HS := Lib.hid hstep
   have HN := Lib.hid hnm
   have hin : ((i : Int) < (n : Int)) := by omega
   obtain ⟨v, hv⟩ : ∃ v, nameOk b.name = v := ⟨_, rfl⟩
   have HV := Lib.hid hv
   clear h hR hM hstep hnm hbi hv HX
   go_wp2_with fail
   (with_reducible refine (r_name _ b.name HN.out v HV.out).mono ?_); rintro e' w1 ⟨rfl, hb1⟩
   have xL1 := xL.below hb1 xL.lt
   have bw1 := hb.trans (hb1.mono hb.size)
   have hxz : ∀ z : Int, z ≠ 0 → bodyErr (L.bodies.take i) b = z → x = z := fun z hz hm => by
    rcases HS.out with ⟨u, _⟩ | ⟨_, u⟩
    ·exact absurd (hm.symm.trans u) hz
    ·exact u.symm.trans hm
   have HXZ := Lib.hid hxz
   clear hxz cL1
   cases v
   ·have h5 : x = 5 := HXZ.out 5 (by decide) (if_pos HV.out)
    go_wp2_with fail
    go_ret
    exact ⟨by rw [h5]; rfl, bw1⟩
   go_wp2_with fail
   go_loopw [4] (fun jv wr => ∃ j : Nat, jv = .int .i64 (j : Nat) ∧ j ≤ i ∧ Hid (twN ((L.bodies.take j).map BodyL.name) b.name = false) ∧ Below w1.heap.size w1 wr) (fun jv _ => i - (intOf jv).toNat)
   case atStart => exact ⟨0, rfl, Nat.zero_le _, Lib.hid rfl, brefl w1⟩
   case round =>
    obtain ⟨j, rfl, hj, HT, hb2⟩ := hrel
    rename World => w2
    have xL2 := xL1.below hb2 xL1.lt
    have bw2 := bw1.trans (hb2.mono bw1.size)
    have cL1 := xL2.cell 1
    have c0 := cell_belw (cell_belw c0 hb1) hb2
    rcases Nat.lt_or_ge j i with hjl | hjg
    ·have hj1 : ((j : Int) < (i : Int)) = True := by simp; omega
     have hjn : j < n := by omega
     have hjn2 : ((j : Int) < (n : Int)) := by omega
     obtain ⟨a, ha, hA⟩ := ((HR.out.bd hb1).bd hb2).rowAt hjn
     obtain ⟨A2, n2, c2, d0, _, _, _⟩ := hA
     have htl := toList_v b.name
     by_cases heq : a.name = b.name
     ·have h6 : x = 6 := HXZ.out 6 (by decide) (by
       unfold bodyErr
       rw [HV.out, if_neg (by decide), if_pos (twM_hit ha hjl heq)])
      rw [heq] at d0
      have hee : (b.name == b.name) = true := by simp
      clear heq ha
      go_wp2_with fail
      go_quiet (fail)
      go_wp2_with fail
      go_ret
      exact ⟨by rw [h6]; rfl, below_drewN bw2 _⟩
     ·have hta := toList_v a.name
      have HT2 := Lib.hid (twM_step ha HT.out heq)
      have hee : (a.name == b.name) = false := beq_eq_false_iff_ne.2 heq
      clear heq ha HT
      go_wp2_with fail
      go_quiet (fail)
      go_wp2_with fail
      go_roundw
      case rel => exact ⟨j + 1, by go_num, by omega, HT2, below_drewN hb2 _⟩
      case measure => simp [intOf]; omega
    ·have hj1 : ((j : Int) < (i : Int)) = False := by simp; omega
     obtain rfl : j = i := by omega
     have c1 := cell_belw (cell_belw c1 hb1) hb2
     obtain ⟨y, hy⟩ : ∃ y, (if 8 < b.pts.length then (4 : Int) else errs markErr [] b.pts) = y := ⟨_, rfl⟩
     have HE : Hid (bodyErr (L.bodies.take j) b = y) := Lib.hid (by
      unfold bodyErr
      rw [HV.out, if_neg (by decide), HT.out, if_neg (by decide)]
      exact hy)
     have HY := Lib.hid hy
     clear hy
     go_wp2_with fail
     (with_reducible refine (r_points _ A' n' c' b k ((HM.out.mk_ hb1).mk_ hb2) (by omega) y HY.out).mono ?_); rintro e' w3 ⟨rfl, hb3⟩
     have bw3 := bw2.trans (hb3.mono bw2.size)
     have xL3 := xL2.below hb3 xL2.lt
     clear cL1
     by_cases hy0 : y = 0
     ·have HX2 : Hid (errs bodyErr (L.bodies.take (j + 1)) (L.bodies.drop (j + 1)) = x) := Lib.hid (by
       rcases HS.out with ⟨_, u⟩ | ⟨u, _⟩
       ·exact u
       ·exact absurd (HE.out.trans hy0) u)
      have e0 : (y == 0) = true := beq_iff_eq.2 hy0
      have e1 : (y != 0) = false := by rw [hy0]; rfl
      clear hy0
      go_wp2_with fail
      go_roundw
      case rel => exact ⟨j + 1, by go_num, by omega, HX2, xL3, bw3⟩
      case measure => simp [intOf]; omega
     ·have hxy : x = y := HXZ.out y hy0 HE.out
      have e0 : (y == 0) = false := beq_eq_false_iff_ne.2 hy0
      have e1 : (y != 0) = true := bne_iff_ne.2 hy0
      clear hy0
      go_wp2_with fail
      go_ret
      exact ⟨by rw [hxy]; rfl, bw3⟩
  ·have hi1 : ((i : Int) < (n : Int)) = False := by simp; omega
   have hx0 : x = 0 := errs_end HX.out (by rw [HLN.out]; exact hge)
   go_wp2_with fail
   go_ret
   exact ⟨by rw [hx0]; rfl, hb⟩
theorem r_driver (w : World) (A : Option Addr) (n c : Nat) (B : Option Addr) (p d : Nat) (C : Option Addr) (q e : Nat) (L : LinkL) (k : Nat) (h : LkS k w A n c B p d C q e L) (hk : k ≤ 10000000) (hn : n ≤ 8) (hq : q ≤ 2) (i : Nat) (hi : i < q) (b : DriverL) (hbi : L.drivers[i]? = some b) (x : Int) (hx : driverErr n (L.drivers.take i) b = x) : Calls Tryz.prog 48 #[.agg #[strV L.name, .slice A n c, .slice B p d, .slice C q e], .int .i64 (i : Nat)] w (RetV w (.int .i64 x)) := by
 have hqc := h.drivers.2.1
 have hlb := h.bodies.1
 obtain ⟨g, o, b9, e1, hg, _, hb9, hB⟩ := h.drivers.at_ hi
 subst e1
 obtain rfl : b9 = b := Option.some.inj (hb9.symm.trans hbi)
 obtain ⟨c0, c1, hnm⟩ := hB
 have HX := Lib.hid hx
 have H := Lib.hid h
 have HN := Lib.hid hnm
 have hin : ((i : Int) < (q : Int)) := by omega
 obtain ⟨v, hv⟩ : ∃ v, nameOk b9.name = v := ⟨_, rfl⟩
 have HV := Lib.hid hv
 have hwg : ¬ g = w.heap.size := by omega
 clear hx h hnm hv hb9 hlb hbi
 go_enter Tryz.func48, Tryz.ntmps48
 go_wp2_with fail
 (with_reducible refine (r_name _ b9.name HN.out v HV.out).mono ?_); rintro e' w1 ⟨rfl, hb1⟩
 have q1 := (((Below.refl _ _).alloc (Nat.le_refl _) _).alloc (by simp) _).trans (hb1.mono (by simp <;> omega))
 have xL : Blk w1 w.heap.size 26 #[strV L.name, .slice A n c, .slice B p d, .slice (some ⟨g, o, none⟩) q e] := ((blkAt _ _ _ (by simp)).alloc _).below hb1 (by simp <;> omega)
 have x1 : Blk w1 (w.heap.size + 1) 64 #[strV b9.name, .int .i64 b9.body] := (blkAt _ _ _ (by simp)).below hb1 (by simp)
 clear hb1
 cases v
 ·have h5 : x = 5 := HX.out.symm.trans (if_pos HV.out)
  go_wp2_with fail
  go_ret
  exact ⟨by rw [h5]; rfl, q1⟩
 go_wp2_with fail
 go_loopw [6] (fun jv wr => ∃ j : Nat, jv = .int .i64 (j : Nat) ∧ j ≤ i ∧ Hid (twN ((L.drivers.take j).map DriverL.name) b9.name = false) ∧ Below w1.heap.size w1 wr) (fun jv _ => i - (intOf jv).toNat)
 case atStart => exact ⟨0, rfl, Nat.zero_le _, Lib.hid rfl, brefl w1⟩
 case round =>
  obtain ⟨j, rfl, hj, HT, hb2⟩ := hrel
  rename World => w2
  have xL2 := xL.below hb2 xL.lt
  have x2 := x1.below hb2 x1.lt
  have bw2 := q1.trans (hb2.mono q1.size)
  rcases Nat.lt_or_ge j i with hjl | hjg
  ·have hj1 : ((j : Int) < (i : Int)) = True := by simp; omega
   have hjn : j < q := by omega
   have hjn2 : ((j : Int) < (q : Int)) := by omega
   obtain ⟨a, ha, d0, _, _⟩ := (H.out.drivers.dr bw2).rowAt hjn
   have cL3 := xL2.cell 3
   have z0 := x2.cell 0
   have htl := toList_v b9.name
   by_cases heq : a.name = b9.name
   ·have h6 : x = 6 := by
     rw [← HX.out]; unfold driverErr
     rw [HV.out, if_neg (by decide), if_pos (twM_hit ha hjl heq)]
    rw [heq] at d0
    have hee : (b9.name == b9.name) = true := by simp
    clear heq ha
    go_wp2_with fail
    go_quiet (fail)
    go_wp2_with fail
    go_ret
    exact ⟨by rw [h6]; rfl, below_drewN bw2 _⟩
   ·have hta := toList_v a.name
    have HT2 := Lib.hid (twM_step ha HT.out heq)
    have hee : (a.name == b9.name) = false := beq_eq_false_iff_ne.2 heq
    clear heq ha HT
    go_wp2_with fail
    go_quiet (fail)
    go_wp2_with fail
    go_roundw
    case rel => exact ⟨j + 1, by go_num, by omega, HT2, below_drewN hb2 _⟩
    case measure => simp [intOf]; omega
  ·have hj1 : ((j : Int) < (i : Int)) = False := by simp; omega
   obtain rfl : j = i := by omega
   have cL1 := xL2.cell 1
   have z1 := x2.cell 1
   obtain ⟨v1, hv1⟩ : ∃ v, inI b9.body n = v := ⟨_, rfl⟩
   have HV1 := Lib.hid hv1
   clear hv1
   go_wp2_with fail
   (with_reducible refine (r_ix _ b9.body n v1 HV1.out).mono ?_); rintro e' w3 ⟨rfl, hb3⟩
   have bw3 := bw2.trans (hb3.mono bw2.size)
   have xL3 := xL2.below hb3 xL2.lt
   have x3 := x2.below hb3 x2.lt
   clear cL1 z1
   cases v1
   ·have h9 : x = 9 := by
     rw [← HX.out]; unfold driverErr
     rw [HV.out, if_neg (by decide), HT.out, if_neg (by decide), if_pos HV1.out]
    go_wp2_with fail
    go_ret
    exact ⟨by rw [h9]; rfl, bw3⟩
   have z1 := x3.cell 1
   by_cases hb0 : b9.body = 0
   ·have e0 : (b9.body == 0) = true := beq_iff_eq.2 hb0
    have h7 : x = 7 := by
     rw [← HX.out]; unfold driverErr
     rw [HV.out, if_neg (by decide), HT.out, if_neg (by decide), HV1.out, if_neg (by decide), if_pos hb0]
    clear hb0
    go_wp2_with fail
    go_ret
    exact ⟨by rw [h7]; rfl, bw3⟩
   have e0 : (b9.body == 0) = false := beq_eq_false_iff_ne.2 hb0
   have HB0 := Lib.hid hb0
   clear hb0
   go_wp2_with fail
   clear z1
   go_loopw [7] (fun jv wr => ∃ r : Nat, jv = .int .i64 (r : Nat) ∧ r ≤ j ∧ Hid (((L.drivers.take r).any fun p => p.body == b9.body) = false) ∧ Below w3.heap.size w3 wr) (fun jv _ => j - (intOf jv).toNat)
   case atStart => exact ⟨0, rfl, Nat.zero_le _, Lib.hid rfl, brefl w3⟩
   case round =>
    obtain ⟨r, rfl, hr, HR, hb4⟩ := hrel
    rename World => w4
    have x4 := x3.below hb4 x3.lt
    have xL4 := xL3.below hb4 xL3.lt
    have bw4 := bw3.trans (hb4.mono bw3.size)
    rcases Nat.lt_or_ge r j with hrl | hrg
    ·have hr1 : ((r : Int) < (j : Int)) = True := by simp; omega
     have hrn : r < q := by omega
     have hrn2 : ((r : Int) < (q : Int)) := by omega
     obtain ⟨a, ha, d0, d1, _⟩ := (H.out.drivers.dr bw4).rowAt hrn
     have ht4 : L.drivers.take (r + 1) = L.drivers.take r ++ [a] := by rw [List.take_add_one, ha]; rfl
     have cL3 := xL4.cell 3
     have z1 := x4.cell 1
     by_cases heq : a.body = b9.body
     ·have h6 : x = 6 := by
       rw [← HX.out]; unfold driverErr
       rw [HV.out, if_neg (by decide), HT.out, if_neg (by decide), HV1.out, if_neg (by decide), if_neg HB0.out, if_pos]
       rw [List.any_eq_true]
       exact ⟨a, List.mem_of_getElem? (i := r) (by rw [List.getElem?_take, if_pos hrl]; exact ha), by simpa using heq⟩
      have hee : (a.body == b9.body) = true := beq_iff_eq.2 heq
      clear heq ha ht4
      go_wp2_with fail
      go_quiet (fail)
      go_wp2_with fail
      go_ret
      exact ⟨by rw [h6]; rfl, below_drewN bw4 _⟩
     ·have HR2 : Hid (((L.drivers.take (r + 1)).any fun p => p.body == b9.body) = false) := Lib.hid (by
       rw [ht4, List.any_append, HR.out]
       simpa using heq)
      have hee : (a.body == b9.body) = false := beq_eq_false_iff_ne.2 heq
      clear heq ha ht4 HR
      go_wp2_with fail
      go_quiet (fail)
      go_wp2_with fail
      go_roundw
      case rel => exact ⟨r + 1, by go_num, by omega, HR2, below_drewN hb4 _⟩
      case measure => simp [intOf]; omega
    ·have hr1 : ((r : Int) < (j : Int)) = False := by simp; omega
     obtain rfl : r = j := by omega
     have h0 : x = 0 := by
      rw [← HX.out]; unfold driverErr
      rw [HV.out, if_neg (by decide), HT.out, if_neg (by decide), HV1.out, if_neg (by decide), if_neg HB0.out, HR.out]
      rfl
     go_wp2_with fail
     go_ret
     exact ⟨by rw [h0]; rfl, bw4⟩
end Go.Proofs.YtckjakojllcdoaaGreatDoor

/- Walks: linkages: what is wrong with one (reference): bodies, joints, drivers, all. -/
namespace Go.Proofs.YtckjakojllcdoaaGreatDoor
open Go Go.RowKit Bn
attribute [local go_sem ↓] Go.wp_at_zero Go.wp_at_succ
theorem inI_t9 {i : Int} {n : Nat} (h : inI i n = true) : ∃ m : Nat, i = (m : Int) ∧ m < n := by
  unfold inI at h
  simp only [Bool.and_eq_true, decide_eq_true_eq] at h
  exact ⟨i.toNat, by omega, by omega⟩
theorem r_same (w : World) (k : Nat) (hk : k ≤ 10000000) (hk1 : 0 < k) (nm nm2 : List UInt8) (b1 : Bool) (A1 : Option Addr) (n1 c1 : Nat) (D1 : Option Addr) (m1 e1 : Nat) (r1 : RD) (h1 : QD w b1 A1 n1 c1 D1 m1 e1 r1 k) (b2 : Bool) (A2 : Option Addr) (n2 c2 : Nat) (D2 : Option Addr) (m2 e2 : Nat) (r2 : RD) (h2 : QD w b2 A2 n2 c2 D2 m2 e2 r2 k) (b3 : Bool) (A3 : Option Addr) (n3 c3 : Nat) (D3 : Option Addr) (m3 e3 : Nat) (r3 : RD) (h3 : QD w b3 A3 n3 c3 D3 m3 e3 r3 k) (b4 : Bool) (A4 : Option Addr) (n4 c4 : Nat) (D4 : Option Addr) (m4 e4 : Nat) (r4 : RD) (h4 : QD w b4 A4 n4 c4 D4 m4 e4 r4 k) (v : Bool) (hv : (decide (r1.q = r3.q) && decide (r2.q = r4.q)) = v) : Calls Tryz.prog 71 #[.agg #[strV nm, .bool b1, .slice A1 n1 c1, .slice D1 m1 e1, .bool b2, .slice A2 n2 c2, .slice D2 m2 e2], .agg #[strV nm2, .bool b3, .slice A3 n3 c3, .slice D3 m3 e3, .bool b4, .slice A4 n4 c4, .slice D4 m4 e4]] w (RetV w (.bool v)) := by
 obtain ⟨s1, hs1⟩ : ∃ s, rcmp r1.q r3.q = s := ⟨_, rfl⟩
 obtain ⟨s2, hs2⟩ : ∃ s, rcmp r2.q r4.q = s := ⟨_, rfl⟩
 have HS1 := Lib.hid hs1
 have HS2 := Lib.hid hs2
 have HV := Lib.hid hv
 have H1 := Lib.hid h1
 have H2 := Lib.hid h2
 have H3 := Lib.hid h3
 have H4 := Lib.hid h4
 clear hs1 hs2 hv h1 h2 h3 h4
 go_enter Tryz.func71, Tryz.ntmps71
 go_wp2_with fail
 (with_reducible refine (g_cmp_v _ b1 A1 n1 c1 D1 m1 e1 r1.q k ?_ b3 A3 n3 c3 D3 m3 e3 r3.q k ?_ s1 HS1.out hk1 hk hk1 hk).mono ?_); (exact (H1.out.qz).belw (((brefl w).alloc (Nat.le_refl _) _).alloc (by simp) _)); (exact (H3.out.qz).belw (((brefl w).alloc (Nat.le_refl _) _).alloc (by simp) _)); rintro e' w1 ⟨rfl, hb1⟩
 have q1 := (((Below.refl _ _).alloc (Nat.le_refl _) _).alloc (by simp) _).trans (hb1.mono (by simp <;> omega))
 have xa : Blk w1 w.heap.size 50 #[strV nm, .bool b1, .slice A1 n1 c1, .slice D1 m1 e1, .bool b2, .slice A2 n2 c2, .slice D2 m2 e2] := ((blkAt _ _ _ (by simp)).alloc _).below hb1 (by simp <;> omega)
 have xb : Blk w1 (w.heap.size + 1) 50 #[strV nm2, .bool b3, .slice A3 n3 c3, .slice D3 m3 e3, .bool b4, .slice A4 n4 c4, .slice D4 m4 e4] := (blkAt _ _ _ (by simp)).below hb1 (by simp)
 clear hb1
 by_cases hs1 : s1 = 0
 ·have es : (s1 == 0) = true := beq_iff_eq.2 hs1
  have hqx : r1.q = r3.q := rcmp_zero.1 (HS1.out.trans hs1)
  have HQX := Lib.hid hqx
  have ca4 := xa.cell 4
  have ca5 := xa.cell 5
  have ca6 := xa.cell 6
  have cb4 := xb.cell 4
  have cb5 := xb.cell 5
  have cb6 := xb.cell 6
  clear hs1 hqx
  go_wp2_with fail
  (with_reducible refine (g_cmp_v _ b2 A2 n2 c2 D2 m2 e2 r2.q k ?_ b4 A4 n4 c4 D4 m4 e4 r4.q k ?_ s2 HS2.out hk1 hk hk1 hk).mono ?_); (exact (H2.out.qz).belw q1); (exact (H4.out.qz).belw q1); rintro e' w2 ⟨rfl, hb2⟩
  have q2 := q1.trans (hb2.mono q1.size)
  clear ca4 ca5 ca6 cb4 cb5 cb6
  by_cases hs2 : s2 = 0
  ·have es2 : (s2 == 0) = true := beq_iff_eq.2 hs2
   have hqy : r2.q = r4.q := rcmp_zero.1 (HS2.out.trans hs2)
   have hv1 : v = true := HV.out.symm.trans (by rw [decide_eq_true HQX.out, decide_eq_true hqy]; rfl)
   clear hs2 hqy
   go_wp2_with fail
   go_ret
   exact ⟨by rw [hv1]; rfl, q2⟩
  ·have es2 : (s2 == 0) = false := beq_eq_false_iff_ne.2 hs2
   have hv0 : v = false := HV.out.symm.trans (by rw [decide_eq_false (fun e => hs2 (HS2.out.symm.trans (rcmp_zero.2 e)))]; simp)
   clear hs2
   go_wp2_with fail
   go_ret
   exact ⟨by rw [hv0]; rfl, q2⟩
 ·have es : (s1 == 0) = false := beq_eq_false_iff_ne.2 hs1
  have hv0 : v = false := HV.out.symm.trans (by rw [decide_eq_false (fun e => hs1 (HS1.out.symm.trans (rcmp_zero.2 e)))]; rfl)
  clear hs1
  go_wp2_with fail
  go_ret
  exact ⟨by rw [hv0]; rfl, q1⟩
theorem r_joint (w : World) (A : Option Addr) (n c : Nat) (B : Option Addr) (p d : Nat) (C : Option Addr) (q e : Nat) (L : LinkL) (k : Nat) (h : LkS k w A n c B p d C q e L) (hk : k ≤ 10000000) (hk1 : 0 < k) (hn : n ≤ 8) (hp : p ≤ 16) (i : Nat) (hi : i < p) (j : JointL) (hji : L.joints[i]? = some j) (x : Int) (hx : jointErr L (L.joints.take i) j = x) : Calls Tryz.prog 47 #[.agg #[strV L.name, .slice A n c, .slice B p d, .slice C q e], .int .i64 (i : Nat)] w (RetV w (.int .i64 x)) := by
  have hpc := h.joints.2.1
  obtain ⟨g, o, j9, e1, hg, _, hj9, hB⟩ := h.joints.at_ hi
  subst e1
  obtain rfl : j9 = j := Option.some.inj (hj9.symm.trans hji)
  obtain ⟨c0, c1, c2, c3, c4, c5, c6, hnm⟩ := hB
  have HX := Lib.hid hx
  have H := Lib.hid h
  have HL := Lib.hid h.bodies.1
  have HN := Lib.hid hnm
  have hin : ((i : Int) < (p : Int)) := by omega
  obtain ⟨v, hv⟩ : ∃ v, nameOk j9.name = v := ⟨_, rfl⟩
  have HV := Lib.hid hv
  have hwg : ¬ g = w.heap.size := by omega
  clear hx h hnm hv hj9 hji
  go_enter Tryz.func47, Tryz.ntmps47
  go_wp2_with fail
  (with_reducible refine (r_name _ j9.name HN.out v HV.out).mono ?_); rintro e' w1 ⟨rfl, hb1⟩
  have q1 := (((Below.refl _ _).alloc (Nat.le_refl _) _).alloc (by simp) _).trans (hb1.mono (by simp <;> omega))
  have xL : Blk w1 w.heap.size 26 #[strV L.name, .slice A n c, .slice (some ⟨g, o, none⟩) p d, .slice C q e] := ((blkAt _ _ _ (by simp)).alloc _).below hb1 (by simp <;> omega)
  have x1 : Blk w1 (w.heap.size + 1) 59 #[strV j9.name, .int .i64 j9.kind, .int .i64 j9.a, .int .i64 j9.point, .int .i64 j9.b, .int .i64 j9.on, .int .i64 j9.to_] := (blkAt _ _ _ (by simp)).below hb1 (by simp)
  clear hb1 c0 c1 c2 c3 c4 c5 c6
  cases v
  · have h5 : x = 5 := HX.out.symm.trans (if_pos HV.out)
    go_wp2_with fail
    go_ret
    exact ⟨by rw [h5]; rfl, q1⟩
  go_wp2_with fail
  go_loopw [6] (fun jv wr => ∃ r : Nat, jv = .int .i64 (r : Nat) ∧ r ≤ i ∧ Hid (twN ((L.joints.take r).map JointL.name) j9.name = false) ∧ Below w1.heap.size w1 wr) (fun jv _ => i - (intOf jv).toNat)
  case atStart => exact ⟨0, rfl, Nat.zero_le _, Lib.hid rfl, brefl w1⟩
  case round =>
    obtain ⟨r, rfl, hr, HT, hb2⟩ := hrel
    rename World => w2
    have xL2 := xL.below hb2 xL.lt
    have x2 := x1.below hb2 x1.lt
    have bw2 := q1.trans (hb2.mono q1.size)
    rcases Nat.lt_or_ge r i with hrl | hrg
    · have hr1 : ((r : Int) < (i : Int)) = True := by simp; omega
      have hrn : r < p := by omega
      have hrn2 : ((r : Int) < (p : Int)) := by omega
      obtain ⟨a, ha, d0, _⟩ := (H.out.joints.jt bw2).rowAt hrn
      have cL2 := xL2.cell 2
      have z0 := x2.cell 0
      have htl := toList_v j9.name
      by_cases heq : a.name = j9.name
      · have h6 : x = 6 := by
          rw [← HX.out]; unfold jointErr
          rw [HV.out, if_neg (by decide), if_pos (twM_hit ha hrl heq)]
        rw [heq] at d0
        have hee : (j9.name == j9.name) = true := by simp
        clear heq ha
        go_wp2_with fail
        go_quiet (fail)
        go_wp2_with fail
        go_ret
        exact ⟨by rw [h6]; rfl, below_drewN bw2 _⟩
      · have hta := toList_v a.name
        have HT2 := Lib.hid (twM_step ha HT.out heq)
        have hee : (a.name == j9.name) = false := beq_eq_false_iff_ne.2 heq
        clear heq ha HT
        go_wp2_with fail
        go_quiet (fail)
        go_wp2_with fail
        go_roundw
        case rel => exact ⟨r + 1, by go_num, by omega, HT2, below_drewN hb2 _⟩
        case measure => simp [intOf]; omega
    have hr1 : ((r : Int) < (i : Int)) = False := by simp; omega
    obtain rfl : r = i := by omega
    have hxE : jointE L j9 = x := by
      rw [← HX.out]; unfold jointErr
      rw [HV.out, if_neg (by decide), HT.out, if_neg (by decide)]
    have HE := Lib.hid hxE
    clear hxE
    by_cases hkk : j9.kind ≠ 0 ∧ j9.kind ≠ 1
    · have e0 : (j9.kind == 0) = false := beq_eq_false_iff_ne.2 hkk.1
      have e1 : (j9.kind == 1) = false := beq_eq_false_iff_ne.2 hkk.2
      have e2 : (j9.kind != 0) = true := bne_iff_ne.2 hkk.1
      have e3 : (j9.kind != 1) = true := bne_iff_ne.2 hkk.2
      have h7 : x = 7 := by rw [← HE.out]; exact if_pos hkk
      have z1 := x2.cell 1
      clear hkk
      go_wp2_with fail
      go_ret
      exact ⟨by rw [h7]; rfl, bw2⟩
    have HKK := Lib.hid hkk
    by_cases hk0 : j9.kind = 0
    · have e0 : (j9.kind == 0) = true := beq_iff_eq.2 hk0
      have e2 : (j9.kind != 0) = false := by rw [hk0]; rfl
      have HK0 := Lib.hid hk0
      clear hk0 hkk
      have z1 := x2.cell 1
      have z2 := x2.cell 2
      have cL1 := xL2.cell 1
      obtain ⟨v1, hv1⟩ : ∃ v, inI j9.a n = v := ⟨_, rfl⟩
      obtain ⟨v2, hv2⟩ : ∃ v, inI j9.b n = v := ⟨_, rfl⟩
      have HV1 := Lib.hid hv1
      have HV2 := Lib.hid hv2
      clear hv1 hv2
      go_wp2_with fail
      (with_reducible refine (r_ix _ j9.a n v1 HV1.out).mono ?_); rintro e' w3 ⟨rfl, hb3⟩
      have bw3 := bw2.trans (hb3.mono bw2.size)
      have xL3 := xL2.below hb3 xL2.lt
      have x3 := x2.below hb3 x2.lt
      clear z1 z2 cL1 hb3
      cases v1
      · have h9 : x = 9 := by rw [← HE.out]; unfold jointE; rw [if_neg HKK.out, HL.out, if_pos HV1.out]
        go_wp2_with fail
        go_ret
        exact ⟨by rw [h9]; rfl, bw3⟩
      have z4 := x3.cell 4
      have cL1 := xL3.cell 1
      go_wp2_with fail
      (with_reducible refine (r_ix _ j9.b n v2 HV2.out).mono ?_); rintro e' w4 ⟨rfl, hb4⟩
      have bw4 := bw3.trans (hb4.mono bw3.size)
      have xL4 := xL3.below hb4 xL3.lt
      have x4 := x3.below hb4 x3.lt
      clear z4 cL1 hb4
      cases v2
      · have h9 : x = 9 := by rw [← HE.out]; unfold jointE; rw [if_neg HKK.out, HL.out, if_neg (by rw [HV1.out]; decide), if_pos HV2.out]
        go_wp2_with fail
        go_ret
        exact ⟨by rw [h9]; rfl, bw4⟩
      obtain ⟨an, han, hal⟩ := inI_t9 HV1.out
      obtain ⟨bn, hbn, hbl⟩ := inI_t9 HV2.out
      have HA := Lib.hid han
      have HBN := Lib.hid hbn
      have cL1 := xL4.cell 1
      have z2 := x4.cell 2
      have z4 := x4.cell 4
      rw [han] at z2
      rw [hbn] at z4
      clear han hbn
      by_cases hab : an = bn
      · have h13 : x = 13 := by
          rw [← HE.out]; unfold jointE
          rw [if_neg HKK.out, HL.out, if_neg (by rw [HV1.out]; decide), if_neg (by rw [HV2.out]; decide), if_pos (by rw [HA.out, HBN.out, hab])]
        subst hab
        go_wp2_with fail
        go_ret
        exact ⟨by rw [h13]; rfl, bw4⟩
      have eab : ((an : Int) == (bn : Int)) = false := beq_eq_false_iff_ne.2 (by omega)
      obtain ⟨g2, o2, bb, e1', hg2, hnc, hbb, hBb⟩ := (H.out.bodies.bd bw4).at_ hbl
      subst e1'
      obtain ⟨ab, hab', hAb⟩ := (H.out.bodies.bd bw4).rowAt hal
      obtain ⟨Ab, nb, cb, k0, k1, hMb, _⟩ := hBb
      obtain ⟨Aa, na, ca, l0, l1, hMa, _⟩ := hAb
      have hpa : ptsAt L j9.a = ab.pts := by unfold ptsAt; rw [HA.out]; show (match L.bodies[an]? with | some b => b.pts | none => []) = _; rw [hab']
      have hpb : ptsAt L j9.b = bb.pts := by unfold ptsAt; rw [HBN.out]; show (match L.bodies[bn]? with | some b => b.pts | none => []) = _; rw [hbb]
      have HLA := Lib.hid hMa.1
      have HLB := Lib.hid hMb.1
      have hbn2 : ((bn : Nat) : Int) < ((n : Nat) : Int) := by omega
      have han2 : ((an : Nat) : Int) < ((n : Nat) : Int) := by omega
      obtain ⟨v3, hv3⟩ : ∃ v, inI j9.point na = v := ⟨_, rfl⟩
      obtain ⟨v4, hv4⟩ : ∃ v, inI j9.on nb = v := ⟨_, rfl⟩
      have HV3 := Lib.hid hv3
      have HV4 := Lib.hid hv4
      have HMB := Lib.hid hMb
      have HPA := Lib.hid hpa
      have HPB := Lib.hid hpb
      have HAB := Lib.hid (show ¬ j9.a = j9.b by rw [HA.out, HBN.out]; omega)
      have z3 := x4.cell 3
      clear hv3 hv4 hMb hMa hpa hpb hbb hab' hab
      go_wp2_with fail
      go_quiet (fail)
      go_wp2_with fail
      (with_reducible refine (r_ix _ j9.point na v3 HV3.out).mono ?_); rintro e' w5 ⟨rfl, hb5⟩
      have q45 : Below w4.heap.size w4 w5 := bnext (below_drewN (brefl w4) _) hb5
      have bw5 := bw4.trans (q45.mono bw4.size)
      have x5 := x4.below q45 x4.lt
      clear z2 z3 z4 cL1 k0 k1 l0 l1 hb5
      cases v3
      · have h9 : x = 9 := by
          rw [← HE.out]; unfold jointE
          rw [if_neg HKK.out, HL.out, if_neg (by rw [HV1.out]; decide), if_neg (by rw [HV2.out]; decide), if_neg HAB.out, HPA.out, HLA.out, if_pos HV3.out]
        go_wp2_with fail
        go_ret
        exact ⟨by rw [h9]; rfl, bw5⟩
      have z5 := x5.cell 5
      go_wp2_with fail
      (with_reducible refine (r_ix _ j9.on nb v4 HV4.out).mono ?_); rintro e' w6 ⟨rfl, hb6⟩
      have q46 := q45.trans (hb6.mono q45.size)
      have bw6 := bw5.trans (hb6.mono bw5.size)
      have x6 := x5.below hb6 x5.lt
      clear z5 hb6
      cases v4
      · have h9 : x = 9 := by
          rw [← HE.out]; unfold jointE
          rw [if_neg HKK.out, HL.out, if_neg (by rw [HV1.out]; decide), if_neg (by rw [HV2.out]; decide), if_neg HAB.out, HPA.out, HLA.out, if_neg (by rw [HV3.out]; decide), HPB.out, HLB.out, if_pos HV4.out]
        go_wp2_with fail
        go_ret
        exact ⟨by rw [h9]; rfl, bw6⟩
      have hX2 : x = (if j9.kind = 0 then (if j9.to_ = 0 then 0 else 2) else if inI j9.to_ nb = false then 9 else if placeEq bb.pts j9.on j9.to_ = true then 8 else 0) := by
        rw [← HE.out]; unfold jointE
        rw [if_neg HKK.out, HL.out, if_neg (by rw [HV1.out]; decide), if_neg (by rw [HV2.out]; decide), if_neg HAB.out, HPA.out, HLA.out, if_neg (by rw [HV3.out]; decide), HPB.out, HLB.out, if_neg (by rw [HV4.out]; decide)]
      have HX2 := Lib.hid hX2
      clear hX2
      have z1 := x6.cell 1
      have z6 := x6.cell 6
      by_cases hto : j9.to_ = 0
      · have hx : x = 0 := by rw [HX2.out, if_pos HK0.out, if_pos hto]
        have t0 : (j9.to_ == 0) = true := beq_iff_eq.2 hto
        have t1 : (j9.to_ != 0) = false := by rw [hto]; rfl
        clear hto
        go_wp2_with fail
        go_ret
        exact ⟨by rw [hx]; rfl, bw6⟩
      · have hx : x = 2 := by rw [HX2.out, if_pos HK0.out, if_neg hto]
        have t0 : (j9.to_ == 0) = false := beq_eq_false_iff_ne.2 hto
        have t1 : (j9.to_ != 0) = true := bne_iff_ne.2 hto
        clear hto
        go_wp2_with fail
        go_ret
        exact ⟨by rw [hx]; rfl, bw6⟩
    · have e0 : (j9.kind == 0) = false := beq_eq_false_iff_ne.2 hk0
      have e2 : (j9.kind != 0) = true := bne_iff_ne.2 hk0
      have hk2 : j9.kind = 1 := by omega
      have e1 : (j9.kind == 1) = true := beq_iff_eq.2 hk2
      have e3 : (j9.kind != 1) = false := by rw [hk2]; rfl
      have HK0 := Lib.hid hk0
      clear hk0 hkk hk2
      have z1 := x2.cell 1
      have z2 := x2.cell 2
      have cL1 := xL2.cell 1
      obtain ⟨v1, hv1⟩ : ∃ v, inI j9.a n = v := ⟨_, rfl⟩
      obtain ⟨v2, hv2⟩ : ∃ v, inI j9.b n = v := ⟨_, rfl⟩
      have HV1 := Lib.hid hv1
      have HV2 := Lib.hid hv2
      clear hv1 hv2
      go_wp2_with fail
      (with_reducible refine (r_ix _ j9.a n v1 HV1.out).mono ?_); rintro e' w3 ⟨rfl, hb3⟩
      have bw3 := bw2.trans (hb3.mono bw2.size)
      have xL3 := xL2.below hb3 xL2.lt
      have x3 := x2.below hb3 x2.lt
      clear z1 z2 cL1 hb3
      cases v1
      · have h9 : x = 9 := by rw [← HE.out]; unfold jointE; rw [if_neg HKK.out, HL.out, if_pos HV1.out]
        go_wp2_with fail
        go_ret
        exact ⟨by rw [h9]; rfl, bw3⟩
      have z4 := x3.cell 4
      have cL1 := xL3.cell 1
      go_wp2_with fail
      (with_reducible refine (r_ix _ j9.b n v2 HV2.out).mono ?_); rintro e' w4 ⟨rfl, hb4⟩
      have bw4 := bw3.trans (hb4.mono bw3.size)
      have xL4 := xL3.below hb4 xL3.lt
      have x4 := x3.below hb4 x3.lt
      clear z4 cL1 hb4
      cases v2
      · have h9 : x = 9 := by rw [← HE.out]; unfold jointE; rw [if_neg HKK.out, HL.out, if_neg (by rw [HV1.out]; decide), if_pos HV2.out]
        go_wp2_with fail
        go_ret
        exact ⟨by rw [h9]; rfl, bw4⟩
      obtain ⟨an, han, hal⟩ := inI_t9 HV1.out
      obtain ⟨bn, hbn, hbl⟩ := inI_t9 HV2.out
      have HA := Lib.hid han
      have HBN := Lib.hid hbn
      have cL1 := xL4.cell 1
      have z2 := x4.cell 2
      have z4 := x4.cell 4
      rw [han] at z2
      rw [hbn] at z4
      clear han hbn
      by_cases hab : an = bn
      · have h13 : x = 13 := by
          rw [← HE.out]; unfold jointE
          rw [if_neg HKK.out, HL.out, if_neg (by rw [HV1.out]; decide), if_neg (by rw [HV2.out]; decide), if_pos (by rw [HA.out, HBN.out, hab])]
        subst hab
        go_wp2_with fail
        go_ret
        exact ⟨by rw [h13]; rfl, bw4⟩
      have eab : ((an : Int) == (bn : Int)) = false := beq_eq_false_iff_ne.2 (by omega)
      obtain ⟨g2, o2, bb, e1', hg2, hnc, hbb, hBb⟩ := (H.out.bodies.bd bw4).at_ hbl
      subst e1'
      obtain ⟨ab, hab', hAb⟩ := (H.out.bodies.bd bw4).rowAt hal
      obtain ⟨Ab, nb, cb, k0, k1, hMb, _⟩ := hBb
      obtain ⟨Aa, na, ca, l0, l1, hMa, _⟩ := hAb
      have hpa : ptsAt L j9.a = ab.pts := by unfold ptsAt; rw [HA.out]; show (match L.bodies[an]? with | some b => b.pts | none => []) = _; rw [hab']
      have hpb : ptsAt L j9.b = bb.pts := by unfold ptsAt; rw [HBN.out]; show (match L.bodies[bn]? with | some b => b.pts | none => []) = _; rw [hbb]
      have HLA := Lib.hid hMa.1
      have HLB := Lib.hid hMb.1
      have hbn2 : ((bn : Nat) : Int) < ((n : Nat) : Int) := by omega
      have han2 : ((an : Nat) : Int) < ((n : Nat) : Int) := by omega
      obtain ⟨v3, hv3⟩ : ∃ v, inI j9.point na = v := ⟨_, rfl⟩
      obtain ⟨v4, hv4⟩ : ∃ v, inI j9.on nb = v := ⟨_, rfl⟩
      have HV3 := Lib.hid hv3
      have HV4 := Lib.hid hv4
      have HMB := Lib.hid hMb
      have HPA := Lib.hid hpa
      have HPB := Lib.hid hpb
      have HAB := Lib.hid (show ¬ j9.a = j9.b by rw [HA.out, HBN.out]; omega)
      have z3 := x4.cell 3
      clear hv3 hv4 hMb hMa hpa hpb hbb hab' hab
      go_wp2_with fail
      go_quiet (fail)
      go_wp2_with fail
      (with_reducible refine (r_ix _ j9.point na v3 HV3.out).mono ?_); rintro e' w5 ⟨rfl, hb5⟩
      have q45 : Below w4.heap.size w4 w5 := bnext (below_drewN (brefl w4) _) hb5
      have bw5 := bw4.trans (q45.mono bw4.size)
      have x5 := x4.below q45 x4.lt
      clear z2 z3 z4 cL1 k0 k1 l0 l1 hb5
      cases v3
      · have h9 : x = 9 := by
          rw [← HE.out]; unfold jointE
          rw [if_neg HKK.out, HL.out, if_neg (by rw [HV1.out]; decide), if_neg (by rw [HV2.out]; decide), if_neg HAB.out, HPA.out, HLA.out, if_pos HV3.out]
        go_wp2_with fail
        go_ret
        exact ⟨by rw [h9]; rfl, bw5⟩
      have z5 := x5.cell 5
      go_wp2_with fail
      (with_reducible refine (r_ix _ j9.on nb v4 HV4.out).mono ?_); rintro e' w6 ⟨rfl, hb6⟩
      have q46 := q45.trans (hb6.mono q45.size)
      have bw6 := bw5.trans (hb6.mono bw5.size)
      have x6 := x5.below hb6 x5.lt
      clear z5 hb6
      cases v4
      · have h9 : x = 9 := by
          rw [← HE.out]; unfold jointE
          rw [if_neg HKK.out, HL.out, if_neg (by rw [HV1.out]; decide), if_neg (by rw [HV2.out]; decide), if_neg HAB.out, HPA.out, HLA.out, if_neg (by rw [HV3.out]; decide), HPB.out, HLB.out, if_pos HV4.out]
        go_wp2_with fail
        go_ret
        exact ⟨by rw [h9]; rfl, bw6⟩
      have hX2 : x = (if j9.kind = 0 then (if j9.to_ = 0 then 0 else 2) else if inI j9.to_ nb = false then 9 else if placeEq bb.pts j9.on j9.to_ = true then 8 else 0) := by
        rw [← HE.out]; unfold jointE
        rw [if_neg HKK.out, HL.out, if_neg (by rw [HV1.out]; decide), if_neg (by rw [HV2.out]; decide), if_neg HAB.out, HPA.out, HLA.out, if_neg (by rw [HV3.out]; decide), HPB.out, HLB.out, if_neg (by rw [HV4.out]; decide)]
      have HX2 := Lib.hid hX2
      clear hX2
      have z1 := x6.cell 1
      have z6 := x6.cell 6
      obtain ⟨v5, hv5⟩ : ∃ v, inI j9.to_ nb = v := ⟨_, rfl⟩
      have HV5 := Lib.hid hv5
      clear hv5
      go_wp2_with fail
      (with_reducible refine (r_ix _ j9.to_ nb v5 HV5.out).mono ?_); rintro e' w7 ⟨rfl, hb7⟩
      have q47 := q46.trans (hb7.mono q46.size)
      have bw7 := bw6.trans (hb7.mono bw6.size)
      have x7 := x6.below hb7 x6.lt
      clear z1 z6 hb7
      cases v5
      · have hx : x = 9 := by rw [HX2.out, if_neg HK0.out, if_pos HV5.out]
        go_wp2_with fail
        go_ret
        exact ⟨by rw [hx]; rfl, bw7⟩
      obtain ⟨on, hon, honl⟩ := inI_t9 HV4.out
      obtain ⟨tn, htn, htnl⟩ := inI_t9 HV5.out
      have z5 : w7.cell? ⟨w.heap.size + 1, 5, none⟩ = some (.int .i64 (on : Nat)) := by have := x7.cell 5; rw [hon] at this; exact this
      have z6 : w7.cell? ⟨w.heap.size + 1, 6, none⟩ = some (.int .i64 (tn : Nat)) := by have := x7.cell 6; rw [htn] at this; exact this
      have hlx : w.heap.size + 1 < w7.heap.size := x7.lt
      obtain ⟨g3, o3, m, e2', hg3, hnc3, hm, hM⟩ := (HMB.out.mk_ q47).at_ honl
      subst e2'
      obtain ⟨m', hm', hM'⟩ := (HMB.out.mk_ q47).rowAt htnl
      obtain ⟨d0, ⟨b1, A1, n1, c1, D1, m1, f1, d1, d2, d3, hQ1⟩, ⟨b2, A2, n2, c2, D2, m2, f2, d4, d5, d6, hQ2⟩, _⟩ := hM
      obtain ⟨y0, ⟨b3, A3, n3, c3, D3, m3, f3, y1, y2, y3, hQ3⟩, ⟨b4, A4, n4, c4, D4, m4, f4, y4, y5, y6, hQ4⟩, _⟩ := hM'
      have d2 : w7.cell? ⟨g3, o3 + on * 7 + 2, none⟩ = some (.slice A1 n1 c1) := d2
      have d3 : w7.cell? ⟨g3, o3 + on * 7 + 3, none⟩ = some (.slice D1 m1 f1) := d3
      have d5 : w7.cell? ⟨g3, o3 + on * 7 + 5, none⟩ = some (.slice A2 n2 c2) := d5
      have d6 : w7.cell? ⟨g3, o3 + on * 7 + 6, none⟩ = some (.slice D2 m2 f2) := d6
      have y2 : w7.cell? ⟨g3, o3 + tn * 7 + 2, none⟩ = some (.slice A3 n3 c3) := y2
      have y3 : w7.cell? ⟨g3, o3 + tn * 7 + 3, none⟩ = some (.slice D3 m3 f3) := y3
      have y5 : w7.cell? ⟨g3, o3 + tn * 7 + 5, none⟩ = some (.slice A4 n4 c4) := y5
      have y6 : w7.cell? ⟨g3, o3 + tn * 7 + 6, none⟩ = some (.slice D4 m4 f4) := y6
      have hpe : placeEq bb.pts j9.on j9.to_ = (decide (m.x.q = m'.x.q) && decide (m.y.q = m'.y.q)) := by
        unfold placeEq
        rw [hon, htn]
        show (match bb.pts[on]?, bb.pts[tn]? with | some p, some q => decide (p.x.q = q.x.q) && decide (p.y.q = q.y.q) | _, _ => false) = _
        rw [hm, hm']
      have HPE := Lib.hid hpe
      have HQ1 := Lib.hid hQ1
      have HQ2 := Lib.hid hQ2
      have HQ3 := Lib.hid hQ3
      have HQ4 := Lib.hid hQ4
      have hon2 : ((on : Nat) : Int) < ((nb : Nat) : Int) := by omega
      have htn2 : ((tn : Nat) : Int) < ((nb : Nat) : Int) := by omega
      obtain ⟨vs, hvs⟩ : ∃ v, (decide (m.x.q = m'.x.q) && decide (m.y.q = m'.y.q)) = v := ⟨_, rfl⟩
      have HVS := Lib.hid hvs
      have hx8 : x = if vs = true then 8 else 0 := by rw [HX2.out, if_neg HK0.out, if_neg (by rw [HV5.out]; decide), HPE.out, hvs]
      have HX8 := Lib.hid hx8
      clear hpe hQ1 hQ2 hQ3 hQ4 hm hm' hon htn hvs hx8
      go_wp2_with fail
      go_region_held3 (fun w' => Sees w7.heap.size w7 w') (first | with_reducible exact Sees.of (Nat.le_refl _) (by assumption) | with_reducible exact Sees.of (Nat.le_refl _) (brefl _).drew | exact Sees.of (Nat.le_refl _) (below_drewN (brefl _) 1) | exact Sees.of (Nat.le_refl _) (below_drewN (by assumption) _))
        (first
          | (go_at_call 71; (with_reducible refine (r_same _ k hk hk1 m.name m'.name b1 A1 n1 c1 D1 m1 f1 m.x ?_ b2 A2 n2 c2 D2 m2 f2 m.y ?_ b3 A3 n3 c3 D3 m3 f3 m'.x ?_ b4 A4 n4 c4 D4 m4 f4 m'.y ?_ vs HVS.out).mono ?_); (exact HQ1.out); (exact HQ2.out); (exact HQ3.out); (exact HQ4.out); rintro e' w8 ⟨rfl, hb8⟩; replace hb8 := bnext (below_drewN (brefl _) 1) hb8; have q8 : Below w7.heap.size w7 w8 := bnext (brefl w7) hb8))
      have bw8 := bw7.trans (q8.mono bw7.size)
      cases vs
      · have hx : x = 0 := HX8.out
        go_wp2_with fail
        go_ret
        exact ⟨by first | rfl | (rw [hx]; rfl), bw8⟩
      · have hx : x = 8 := HX8.out
        go_wp2_with fail
        go_ret
        exact ⟨by first | rfl | (rw [hx]; rfl), bw8⟩
end Go.Proofs.YtckjakojllcdoaaGreatDoor

/- Walks: linkages: what is wrong with one (reference). -/
namespace Go.Proofs.YtckjakojllcdoaaGreatDoor
open Go Go.RowKit Bn
attribute [local go_sem ↓] Go.wp_at_zero Go.wp_at_succ
theorem r_check (w : World) (A : Option Addr) (n c : Nat) (B : Option Addr) (p d : Nat) (C : Option Addr) (q e : Nat) (L : LinkL) (k : Nat) (h : LkS k w A n c B p d C q e L) (hk : k ≤ 10000000) (hk1 : 0 < k) (x : Int) (hx : lkErr L = x) :
  Calls Tryz.prog 27 #[.agg #[strV L.name, .slice A n c, .slice B p d, .slice C q e]] w (RetV w (.int .i64 x)) := by
 have hln := h.bodies.1
 obtain ⟨v, hv⟩ : ∃ v, nameOk L.name = v := ⟨_, rfl⟩
 have HV := Lib.hid hv
 have HX := Lib.hid hx
 have HL := Lib.hid hln
 have HLJ := Lib.hid h.joints.1
 have HLD := Lib.hid h.drivers.1
 have H := Lib.hid h
 clear hv hx hln h
 go_enter Tryz.func27, Tryz.ntmps27
 go_wp2_with fail
 (with_reducible refine (r_name _ L.name H.out.name v HV.out).mono ?_); rintro e' w1 ⟨rfl, hb1⟩
 have q1 := ((Below.refl _ _).alloc (Nat.le_refl _) _).trans (hb1.mono (by simp))
 have x1 : Blk w1 w.heap.size 26 #[strV L.name, .slice A n c, .slice B p d, .slice C q e] := (blkAt _ _ _ (by simp)).below hb1 (by simp)
 clear hb1
 cases v
 ·have h5 : x = 5 := by rw [← HX.out]; unfold lkErr; rw [if_pos HV.out]
  go_wp2_with fail
  go_ret
  exact ⟨by rw [h5]; rfl, q1⟩
 have hX1 : x = if n = 0 then 10 else if 8 < n then 4 else if errs bodyErr [] L.bodies ≠ 0 then errs bodyErr [] L.bodies
   else if 16 < p then 4 else if errs (jointErr L) [] L.joints ≠ 0 then errs (jointErr L) [] L.joints
   else if 2 < q then 4 else errs (driverErr n) [] L.drivers := by
  rw [← HX.out]; unfold lkErr; rw [if_neg (by rw [HV.out]; decide), HL.out, HLJ.out, HLD.out]
 obtain ⟨y1, hy1⟩ : ∃ y, errs bodyErr [] L.bodies = y := ⟨_, rfl⟩
 obtain ⟨y2, hy2⟩ : ∃ y, errs (jointErr L) [] L.joints = y := ⟨_, rfl⟩
 obtain ⟨y3, hy3⟩ : ∃ y, errs (driverErr n) [] L.drivers = y := ⟨_, rfl⟩
 rw [hy1, hy2, hy3] at hX1
 have HX2 := Lib.hid hX1
 have HY1 := Lib.hid hy1
 have HY2 := Lib.hid (errs_start hy2)
 have HY3 := Lib.hid (errs_start hy3)
 clear hX1 hy1 hy2 hy3
 have cx1 := x1.cell 1
 by_cases h0 : n = 0
 ·have e0 : ((n : Int) == 0) = true := beq_iff_eq.2 (by omega)
  have e00 : ((n : Int) = 0) = True := eq_true (by omega)
  have h10 : x = 10 := by rw [HX2.out, if_pos h0]
  clear h0
  go_wp2_with fail
  go_ret
  exact ⟨by rw [h10]; rfl, q1⟩
 have e0 : ((n : Int) == 0) = false := beq_eq_false_iff_ne.2 (by omega)
 have e00 : ((n : Int) = 0) = False := eq_false (by omega)
 by_cases h8 : 8 < n
 ·have e8 : ((8 : Int) < (n : Int)) = True := eq_true (by omega)
  have h4 : x = 4 := by rw [HX2.out, if_neg h0, if_pos h8]
  go_wp2_with fail
  go_ret
  exact ⟨by rw [h4]; rfl, q1⟩
 have e8 : ((8 : Int) < (n : Int)) = False := eq_false (by omega)
 have hX3 := HX2.out
 rw [if_neg h0, if_neg h8] at hX3
 have HX3 := Lib.hid hX3
 have hn8 : n ≤ 8 := by omega
 have cx0 := x1.cell 0
 have cx2 := x1.cell 2
 have cx3 := x1.cell 3
 clear hX3 h0 h8
 go_wp2_with fail
 (with_reducible refine (r_bodies _ A n c B p d C q e L k (H.out.belw q1) hk hn8 y1 HY1.out).mono ?_); rintro e' w2 ⟨rfl, hb2⟩
 have q2 := q1.trans (hb2.mono q1.size)
 have x2 := x1.below hb2 x1.lt
 clear cx0 cx1 cx2 cx3
 by_cases h1 : y1 = 0
 case neg =>
  have hxy : x = y1 := by rw [HX3.out, if_pos h1]
  have f0 : (y1 == 0) = false := beq_eq_false_iff_ne.2 h1
  have f1 : (y1 != 0) = true := bne_iff_ne.2 h1
  clear h1
  go_wp2_with fail
  go_ret
  exact ⟨by rw [hxy]; rfl, q2⟩
 have hX4 := HX3.out
 rw [if_neg (by simp [h1])] at hX4
 have HX4 := Lib.hid hX4
 have f0 : (y1 == 0) = true := beq_iff_eq.2 h1
 have f1 : (y1 != 0) = false := by rw [h1]; rfl
 have cx2 := x2.cell 2
 clear hX4 h1
 by_cases h16 : 16 < p
 ·have e16 : ((16 : Int) < (p : Int)) = True := eq_true (by omega)
  have h4 : x = 4 := by rw [HX4.out, if_pos h16]
  go_wp2_with fail
  go_ret
  exact ⟨by rw [h4]; rfl, q2⟩
 have e16 : ((16 : Int) < (p : Int)) = False := eq_false (by omega)
 have hp16 : p ≤ 16 := by omega
 have hX5 := HX4.out
 rw [if_neg h16] at hX5
 have HX5 := Lib.hid hX5
 clear hX5 h16
 go_wp2_with fail
 clear cx2
 go_loopw [4] (fun iv wr => ∃ i : Nat, iv = .int .i64 (i : Nat) ∧ i ≤ p ∧ Hid (errs (jointErr L) (L.joints.take i) (L.joints.drop i) = y2) ∧ Below w2.heap.size w2 wr) (fun iv _ => p - (intOf iv).toNat)
 case atStart => exact ⟨0, rfl, Nat.zero_le _, HY2, brefl w2⟩
 case round =>
  clear HY2
  obtain ⟨i, rfl, hi, HP, hb3⟩ := hrel
  rename World => w3
  have x3 := x2.below hb3 x2.lt
  have q3 := q2.trans (hb3.mono q2.size)
  have cx0 := x3.cell 0
  have cx1 := x3.cell 1
  have cx2 := x3.cell 2
  have cx3 := x3.cell 3
  rcases Nat.lt_or_ge i p with hlt | hge
  ·have hi1 : ((i : Int) < (p : Int)) = True := by simp; omega
   obtain ⟨j, hj⟩ : ∃ j, L.joints[i]? = some j := ⟨_, List.getElem?_eq_getElem (by rw [HLJ.out]; exact hlt)⟩
   have hst := errs_step HP.out hj
   obtain ⟨z, hz⟩ : ∃ z, jointErr L (L.joints.take i) j = z := ⟨_, rfl⟩
   rw [hz] at hst
   have HZ := Lib.hid hz
   have HST := Lib.hid hst
   have HJ := Lib.hid hj
   clear hj hst hz HP
   go_wp2_with fail
   (with_reducible refine (r_joint _ A n c B p d C q e L k (H.out.belw q3) hk hk1 hn8 hp16 i hlt j HJ.out z HZ.out).mono ?_); rintro e' w4 ⟨rfl, hb4⟩
   have q4 := q3.trans (hb4.mono q3.size)
   clear cx0 cx1 cx2 cx3
   by_cases hz0 : z = 0
   ·have HP2 : Hid (errs (jointErr L) (L.joints.take (i + 1)) (L.joints.drop (i + 1)) = y2) := Lib.hid (by
     rcases HST.out with ⟨_, u⟩ | ⟨u, _⟩
     ·exact u
     ·exact absurd hz0 u)
    have g0 : (z == 0) = true := beq_iff_eq.2 hz0
    have g1 : (z != 0) = false := by rw [hz0]; rfl
    clear hz0
    go_wp2_with fail
    go_roundw
    case rel => exact ⟨i + 1, by go_num, by omega, HP2, hb3.trans (hb4.mono hb3.size)⟩
    case measure => simp [intOf]; omega
   ·have hxz : x = z := by
     rcases HST.out with ⟨u, _⟩ | ⟨_, u⟩
     ·exact absurd u hz0
     ·rw [HX5.out, ← u, if_pos hz0]
    have g0 : (z == 0) = false := beq_eq_false_iff_ne.2 hz0
    have g1 : (z != 0) = true := bne_iff_ne.2 hz0
    clear hz0
    go_wp2_with fail
    go_ret
    exact ⟨by rw [hxz]; rfl, q4⟩
  have hi1 : ((i : Int) < (p : Int)) = False := by simp; omega
  have hy0 : y2 = 0 := errs_end HP.out (by rw [HLJ.out]; exact hge)
  have hX6 := HX5.out
  rw [if_neg (by simp [hy0])] at hX6
  have HX6 := Lib.hid hX6
  clear hX6 hy0 HX5
  by_cases h2 : 2 < q
  ·have e2 : ((2 : Int) < (q : Int)) = True := eq_true (by omega)
   have h4 : x = 4 := by rw [HX6.out, if_pos h2]
   go_wp2_with fail
   go_ret
   exact ⟨by rw [h4]; rfl, q3⟩
  have e2 : ((2 : Int) < (q : Int)) = False := eq_false (by omega)
  have hq2 : q ≤ 2 := by omega
  have hX7 : x = y3 := by rw [HX6.out, if_neg h2]
  subst hX7
  clear h2
  go_wp2_with fail
  clear cx0 cx1 cx2 cx3
  go_loopw [6] (fun iv wr => ∃ i : Nat, iv = .int .i64 (i : Nat) ∧ i ≤ q ∧ Hid (errs (driverErr n) (L.drivers.take i) (L.drivers.drop i) = x) ∧ Below w3.heap.size w3 wr) (fun iv _ => q - (intOf iv).toNat)
  case atStart => exact ⟨0, rfl, Nat.zero_le _, HY3, brefl w3⟩
  case round =>
   clear HY3
   obtain ⟨s, rfl, hs, HP3, hb5⟩ := hrel
   rename World => w5
   have x5 := x3.below hb5 x3.lt
   have q5 := q3.trans (hb5.mono q3.size)
   have cx0 := x5.cell 0
   have cx1 := x5.cell 1
   have cx2 := x5.cell 2
   have cx3 := x5.cell 3
   rcases Nat.lt_or_ge s q with hlt | hgs
   ·have hs1 : ((s : Int) < (q : Int)) = True := by simp; omega
    obtain ⟨b, hb⟩ : ∃ b, L.drivers[s]? = some b := ⟨_, List.getElem?_eq_getElem (by rw [HLD.out]; exact hlt)⟩
    have hst := errs_step HP3.out hb
    obtain ⟨z, hz⟩ : ∃ z, driverErr n (L.drivers.take s) b = z := ⟨_, rfl⟩
    rw [hz] at hst
    have HZ := Lib.hid hz
    have HST := Lib.hid hst
    have HB := Lib.hid hb
    clear hb hst hz HP3
    go_wp2_with fail
    (with_reducible refine (r_driver _ A n c B p d C q e L k (H.out.belw q5) hk hn8 hq2 s hlt b HB.out z HZ.out).mono ?_); rintro e' w6 ⟨rfl, hb6⟩
    have q6 := q5.trans (hb6.mono q5.size)
    clear cx0 cx1 cx2 cx3
    by_cases hz0 : z = 0
    ·have HP2 : Hid (errs (driverErr n) (L.drivers.take (s + 1)) (L.drivers.drop (s + 1)) = x) := Lib.hid (by
      rcases HST.out with ⟨_, u⟩ | ⟨u, _⟩
      ·exact u
      ·exact absurd hz0 u)
     have g0 : (z == 0) = true := beq_iff_eq.2 hz0
     have g1 : (z != 0) = false := by rw [hz0]; rfl
     clear hz0
     go_wp2_with fail
     go_roundw
     case rel => exact ⟨s + 1, by go_num, by omega, HP2, hb5.trans (hb6.mono hb5.size)⟩
     case measure => simp [intOf]; omega
    ·have hxz : x = z := by
      rcases HST.out with ⟨u, _⟩ | ⟨_, u⟩
      ·exact absurd u hz0
      ·exact u.symm
     have g0 : (z == 0) = false := beq_eq_false_iff_ne.2 hz0
     have g1 : (z != 0) = true := bne_iff_ne.2 hz0
     clear hz0
     go_wp2_with fail
     go_ret
     exact ⟨by rw [hxz]; rfl, q6⟩
   ·have hs1 : ((s : Int) < (q : Int)) = False := by simp; omega
    have hx0 : x = 0 := errs_end HP3.out (by rw [HLD.out]; exact hgs)
    go_wp2_with fail
    go_ret
    exact ⟨by rw [hx0]; rfl, q5⟩
end Go.Proofs.YtckjakojllcdoaaGreatDoor

/- Walks: texts of linkages: bodies (reference). -/
namespace Go.Proofs.YtckjakojllcdoaaGreatDoor
open Go Go.RowKit Bn
attribute [local go_sem ↓] Go.wp_at_zero Go.wp_at_succ
theorem r_body (w : World) (A : Option Addr) (n c : Nat) (b : BodyL) (h : SlS (MkAt 40) 7 w A n c b.pts) (hn : n ≤ 1000) (hnm : b.name.length ≤ 1000) (hms : ∀ m ∈ b.pts, m.name.length ≤ 1000) (T : List UInt8) (hT : bodyText b = T) :
    Calls Tryz.prog 13 #[.agg #[strV b.name, .slice A n c]] w (RetV w (strV T)) := by
  have HM := Lib.hid (h.short hms)
  have HF := Lib.hid (marks_len (h.short hms))
  have hlen := h.1
  have hnc := h.2.1
  have hsn := size_v b.name
  obtain ⟨h1, eh1⟩ : ∃ t, [98, 111, 100, 121, 32] ++ b.name = t := ⟨_, rfl⟩
  have ah1 := app_v ([98, 111, 100, 121, 32]) (b.name)
  rw [eh1] at ah1
  have lh1 : h1.length = 5 + b.name.length := by rw [← eh1, List.length_append]; try simp
  have kh1 : (9223372036854775807 < 5 + b.name.length) = False := eq_false (by omega)
  have zh1 := size_v h1
  obtain ⟨h2, eh2⟩ : ∃ t, h1 ++ [32, 123] = t := ⟨_, rfl⟩
  have ah2 := app_v (h1) ([32, 123])
  rw [eh2] at ah2
  have lh2 : h2.length = h1.length + 2 := by rw [← eh2, List.length_append]; try simp
  have kh2 : (9223372036854775807 < h1.length + 2) = False := eq_false (by omega)
  have zh2 := size_v h2
  have HE : Hid (T = h2 ++ b.pts.flatMap markText ++ [32, 125]) := Lib.hid (by rw [← hT, ← eh2, ← eh1]; rfl)
  have HLN := Lib.hid hlen
  have H := Lib.hid h
  have hl2 : h2.length ≤ 1007 := by omega
  clear h hms hT hlen eh1 eh2 lh1 lh2
  go_enter Tryz.func13, Tryz.ntmps13
  go_wp2_with fail
  go_loopw [3, 4] (fun ov iv wr => ∃ (i : Nat) (O : List UInt8), ov = strV O ∧ iv = .int .i64 (i : Nat) ∧ i ≤ n ∧ Hid (h2 ++ (b.pts.take i).flatMap markText = O) ∧ Blk wr w.heap.size 38 #[strV b.name, .slice A n c] ∧ Below w.heap.size w wr) (fun _ iv _ => n - (intOf iv).toNat)
  case atStart => exact ⟨0, h2, rfl, rfl, Nat.zero_le _, Lib.hid (by simp), blkAt _ _ _ (by simp), (brefl w).alloc (Nat.le_refl _) _⟩
  case round =>
    obtain ⟨i, O, rfl, rfl, hi, HO, xa, hb⟩ := hrel
    rename World => wa
    have hla : w.heap.size < wa.heap.size := xa.lt
    obtain ⟨cA0, cA1⟩ := xa.c2
    have hfl := flat_len markText b.pts i
    have hsO := size_v O
    have hlO : O.length ≤ 1007 + 3010 * n := by
      rw [← HO.out, List.length_append]
      have h9 := HF.out
      rw [HLN.out] at h9
      omega
    rcases Nat.lt_or_ge i n with hlt | hge
    · have hi1 : ((i : Int) < (n : Int)) = True := by simp; omega
      obtain ⟨g, o, m, e1, hg, _, hbi, hM⟩ := (H.out.mk_ hb).at_ hlt
      subst e1
      have hsh := HM.out m (List.mem_of_getElem? hbi)
      obtain ⟨hm1, hm2, hm3⟩ := hsh
      have hfs := flat_step markText hbi
      obtain ⟨d0, ⟨b1, A1, n1, c1, D1, m1, e1, d1, d2, d3, hQ1⟩, ⟨b2, A2, n2, c2, D2, m2, e2, d4, d5, d6, hQ2⟩, hmn⟩ := hM
      have d2 : wa.cell? ⟨g, o + i * 7 + 2, none⟩ = some (.slice A1 n1 c1) := d2
      have d3 : wa.cell? ⟨g, o + i * 7 + 3, none⟩ = some (.slice D1 m1 e1) := d3
      have d5 : wa.cell? ⟨g, o + i * 7 + 5, none⟩ = some (.slice A2 n2 c2) := d5
      have d6 : wa.cell? ⟨g, o + i * 7 + 6, none⟩ = some (.slice D2 m2 e2) := d6
      have hsm := size_v m.name
      obtain ⟨X, hX⟩ : ∃ X, ratText m.x.q = X := ⟨_, rfl⟩
      obtain ⟨Y, hY⟩ : ∃ Y, ratText m.y.q = Y := ⟨_, rfl⟩
      have hsX := size_v X
      have hsY := size_v Y
      have hlX : X.length ≤ 1000 := by rw [← hX]; exact ratText_le hm2 (Nat.le_refl _)
      have hlY : Y.length ≤ 1000 := by rw [← hY]; exact ratText_le hm3 (Nat.le_refl _)
      obtain ⟨s1, es1⟩ : ∃ t, [32] ++ m.name = t := ⟨_, rfl⟩
      have as1 := app_v ([32]) (m.name)
      rw [es1] at as1
      have ls1 : s1.length = 1 + m.name.length := by rw [← es1, List.length_append]; try simp
      have ks1 : (9223372036854775807 < 1 + m.name.length) = False := eq_false (by omega)
      have zs1 := size_v s1
      obtain ⟨s2, es2⟩ : ∃ t, s1 ++ [32] = t := ⟨_, rfl⟩
      have as2 := app_v (s1) ([32])
      rw [es2] at as2
      have ls2 : s2.length = s1.length + 1 := by rw [← es2, List.length_append]; try simp
      have ks2 : (9223372036854775807 < s1.length + 1) = False := eq_false (by omega)
      have zs2 := size_v s2
      obtain ⟨s3, es3⟩ : ∃ t, s2 ++ X = t := ⟨_, rfl⟩
      have as3 := app_v (s2) (X)
      rw [es3] at as3
      have ls3 : s3.length = s2.length + X.length := by rw [← es3, List.length_append]; try simp
      have ks3 : (9223372036854775807 < s2.length + X.length) = False := eq_false (by omega)
      have zs3 := size_v s3
      obtain ⟨s4, es4⟩ : ∃ t, s3 ++ [32] = t := ⟨_, rfl⟩
      have as4 := app_v (s3) ([32])
      rw [es4] at as4
      have ls4 : s4.length = s3.length + 1 := by rw [← es4, List.length_append]; try simp
      have ks4 : (9223372036854775807 < s3.length + 1) = False := eq_false (by omega)
      have zs4 := size_v s4
      obtain ⟨s5, es5⟩ : ∃ t, s4 ++ Y = t := ⟨_, rfl⟩
      have as5 := app_v (s4) (Y)
      rw [es5] at as5
      have ls5 : s5.length = s4.length + Y.length := by rw [← es5, List.length_append]; try simp
      have ks5 : (9223372036854775807 < s4.length + Y.length) = False := eq_false (by omega)
      have zs5 := size_v s5
      obtain ⟨s6, es6⟩ : ∃ t, s5 ++ [59] = t := ⟨_, rfl⟩
      have as6 := app_v (s5) ([59])
      rw [es6] at as6
      have ls6 : s6.length = s5.length + 1 := by rw [← es6, List.length_append]; try simp
      have ks6 : (9223372036854775807 < s5.length + 1) = False := eq_false (by omega)
      have zs6 := size_v s6
      have hmt : markText m = s6 := by
        rw [← es6, ← es5, ← es4, ← es3, ← es2, ← es1, ← hX, ← hY]
        unfold markText
        simp
      rw [hmt] at hfs
      obtain ⟨O2, eO2⟩ : ∃ t, O ++ s6 = t := ⟨_, rfl⟩
      have aO2 := app_v O s6
      rw [eO2] at aO2
      have kO2 : (9223372036854775807 < O.length + s6.length) = False := eq_false (by omega)
      have HX := Lib.hid hX
      have HY := Lib.hid hY
      have HQ1 := Lib.hid hQ1
      have HQ2 := Lib.hid hQ2
      have HO2 : Hid (h2 ++ (b.pts.take (i + 1)).flatMap markText = O2) := Lib.hid (by rw [hfs, ← List.append_assoc, HO.out, eO2])
      have hga : g < wa.heap.size := hg
      clear hX hY hQ1 hQ2 hmt hfl hbi hm1 hm2 hm3 eO2 hfs es1 es2 es3 es4 es5 es6 ls1 ls2 ls3 ls4 ls5 ls6
      go_wp2_with fail
      go_region_held3 (fun w' => Sees wa.heap.size wa w') (first | with_reducible exact Sees.of (Nat.le_refl _) (by assumption) | with_reducible exact Sees.of (Nat.le_refl _) (brefl _).drew | exact Sees.of (Nat.le_refl _) (below_drewN (brefl _) 1) | exact Sees.of (Nat.le_refl _) (below_drewN (by assumption) _))
        (first
          | (go_at_call 15; (with_reducible refine (r_number _ b1 A1 n1 c1 D1 m1 e1 m.x 40 ?_ (by decide) (by decide) X HX.out).mono ?_); (exact HQ1.out.belw (by first | exact qwy | exact brefl _ | exact (brefl wa).drew | exact below_drewN (brefl wa) _)); rintro e' wx ⟨rfl, hwx⟩; have qwx : Below wa.heap.size wa wx := (by first | exact bnext qwy hwx | exact bnext (brefl wa) hwx | exact bnext (below_drewN (brefl wa) _) hwx))
          | (go_at_call 15; (with_reducible refine (r_number _ b2 A2 n2 c2 D2 m2 e2 m.y 40 ?_ (by decide) (by decide) Y HY.out).mono ?_); (exact HQ2.out.belw (by first | exact qwx | exact brefl _ | exact (brefl wa).drew | exact below_drewN (brefl wa) _)); rintro e' wy ⟨rfl, hwy⟩; have qwy : Below wa.heap.size wa wy := (by first | exact bnext qwx hwy | exact bnext (brefl wa) hwy | exact bnext (below_drewN (brefl wa) _) hwy)))
      all_goals
        clear cA0 cA1 d0 d1 d2 d3 d4 d5 d6
        go_wp2_with fail
        go_roundw
        case rel =>
          first
            | exact ⟨i + 1, O2, rfl, by go_num, by omega, HO2, xa.below qwy xa.lt, hb.trans (qwy.mono hb.size)⟩
            | exact ⟨i + 1, O2, rfl, by go_num, by omega, HO2, xa.below qwx xa.lt, hb.trans (qwx.mono hb.size)⟩
        case measure => simp [intOf]; omega
    · have hi1 : ((i : Int) < (n : Int)) = False := by simp; omega
      have hin : b.pts.take i = b.pts := List.take_of_length_le (by rw [HLN.out]; exact hge)
      rw [hin] at HO
      obtain ⟨O2, eO2⟩ : ∃ t, O ++ [32, 125] = t := ⟨_, rfl⟩
      have aO2 := app_v O [32, 125]
      rw [eO2] at aO2
      have kO2 : (9223372036854775807 < O.length + 2) = False := eq_false (by omega)
      have hTT : O2 = T := by rw [← eO2, ← HO.out]; exact HE.out.symm
      subst hTT
      clear eO2 hin
      go_wp2_with fail
      go_ret
      exact ⟨rfl, hb⟩
end Go.Proofs.YtckjakojllcdoaaGreatDoor

/- Walks: the text of a linkage (reference). -/
namespace Go.Proofs.YtckjakojllcdoaaGreatDoor
open Go Go.RowKit Bn
attribute [local go_sem ↓] Go.wp_at_zero Go.wp_at_succ
theorem r_lk_err (w : World) (A : Option Addr) (n c : Nat) (B : Option Addr) (p d : Nat) (C : Option Addr) (q e : Nat) (L : LinkL) (h : LkS 40 w A n c B p d C q e L) (he : lkErr L ≠ 0) : Calls Tryz.prog 10 #[.agg #[strV L.name, .slice A n c, .slice B p d, .slice C q e]] w (fun e' w' => e' = .returned (.tuple #[strV [], .int .i64 (lkErr L)]) ∧ Below w.heap.size w w') := by
 obtain ⟨x, hx⟩ : ∃ x, lkErr L = x := ⟨_, rfl⟩
 rw [hx] at he ⊢
 have HX := Lib.hid hx
 have H := Lib.hid h
 have hx0 : (x == 0) = false := by simpa using he
 clear h hx
 go_enter Tryz.func10, Tryz.ntmps10
 go_wp2_with fail
 have q0 : Below w.heap.size w (w.alloc (.cells #[strV L.name, .slice A n c, .slice B p d, .slice C q e] 26)) := (brefl w).alloc (Nat.le_refl _) _
 (with_reducible refine (r_check _ A n c B p d C q e L 40 (H.out.belw q0) (by decide) (by decide) x HX.out).mono ?_); rintro e' w1 ⟨rfl, hb1⟩
 have q1 := q0.trans (hb1.mono q0.size)
 clear hb1
 go_wp2_with fail
 go_ret2
 exact ⟨rfl, q1⟩
theorem r_lk_ok (w : World) (A : Option Addr) (n c : Nat) (B : Option Addr) (p d : Nat) (C : Option Addr) (q e : Nat) (L : LinkL) (h : LkS 40 w A n c B p d C q e L) (hc : lkErr L = 0) : Calls Tryz.prog 10 #[.agg #[strV L.name, .slice A n c, .slice B p d, .slice C q e]] w (fun e' w' => e' = .returned (.tuple #[strV (outText L), .int .i64 (outErr L)]) ∧ Below w.heap.size w w') := by
  have hk := lkErr_ok hc
  have hln := h.bodies.1
  have hlj := h.joints.1
  have hld := h.drivers.1
  have hnb := hk.nb
  have hnj := hk.nj
  have hnd := hk.nd
  have hb0 := hk.b0
  have hnc := h.bodies.2.1
  have hpc := h.joints.2.1
  have hqc := h.drivers.2.1
  have hnm : L.name.length ≤ 24 := hk.name
  have hsn := size_v L.name
  rw [hln] at hnb hb0
  rw [hlj] at hnj
  rw [hld] at hnd
  have hfb := flat_bound lineText 30000 L.bodies (h.bodies.lineLen hk.body)
  have hfj := flat_bound (jointText L.bodies) 200 L.joints fun j hj => jointText_len hk.body (hk.joint j hj).1
  have hfd := flat_bound (driverText L.bodies) 60 L.drivers fun d hd => driverText_len hk.body (hk.driver d hd).1
  rw [hln] at hfb
  rw [hlj] at hfj
  rw [hld] at hfd
  obtain ⟨h1, eh1⟩ : ∃ t, [108, 105, 110, 107, 97, 103, 101, 32] ++ L.name = t := ⟨_, rfl⟩
  have ah1 := app_v ([108, 105, 110, 107, 97, 103, 101, 32]) (L.name)
  rw [eh1] at ah1
  have lh1 : h1.length = 8 + L.name.length := by rw [← eh1, List.length_append]; try simp
  have kh1 : (9223372036854775807 < 8 + L.name.length) = False := eq_false (by omega)
  have zh1 := size_v h1
  obtain ⟨h2, eh2⟩ : ∃ t, h1 ++ [59, 10] = t := ⟨_, rfl⟩
  have ah2 := app_v (h1) ([59, 10])
  rw [eh2] at ah2
  have lh2 : h2.length = h1.length + 2 := by rw [← eh2, List.length_append]; try simp
  have kh2 : (9223372036854775807 < h1.length + 2) = False := eq_false (by omega)
  have zh2 := size_v h2
  have hl2 : h2.length ≤ 34 := by omega
  obtain ⟨S1, hS1⟩ : ∃ S, h2 ++ L.bodies.flatMap lineText = S := ⟨_, rfl⟩
  obtain ⟨S2, hS2⟩ : ∃ S, S1 ++ L.joints.flatMap (jointText L.bodies) = S := ⟨_, rfl⟩
  obtain ⟨S3, hS3⟩ : ∃ S, S2 ++ L.drivers.flatMap (driverText L.bodies) = S := ⟨_, rfl⟩
  have hlS1 : S1.length ≤ 34 + 30000 * n := by rw [← hS1, List.length_append]; omega
  have hlS2 : S2.length ≤ 34 + 30000 * n + 200 * p := by rw [← hS2, List.length_append]; omega
  have hlS3 : S3.length ≤ 34 + 30000 * n + 200 * p + 60 * q := by rw [← hS3, List.length_append]; omega
  have hT3 : lkText L = S3 := by
    rw [← hS3, ← hS2, ← hS1, ← eh2, ← eh1]
    unfold lkText headText
    simp
  have H := Lib.hid h
  have HK := Lib.hid hk
  have HC := Lib.hid hc
  have HS1 := Lib.hid hS1
  have HS2 := Lib.hid hS2
  have HS3 := Lib.hid hS3
  have HT3 := Lib.hid hT3
  have HFB := Lib.hid hfb
  have HFJ := Lib.hid hfj
  have HFD := Lib.hid hfd
  have HLB := Lib.hid hln
  have HLJ := Lib.hid hlj
  have HLD := Lib.hid hld
  have HL1 := Lib.hid hlS1
  have HL2 := Lib.hid hlS2
  have HL3 := Lib.hid hlS3
  clear h hk hc hS1 hS2 hS3 hT3 hfb hfj hfd hln hlj hld eh1 eh2 lh1 lh2 hlS1 hlS2 hlS3
  go_enter Tryz.func10, Tryz.ntmps10
  go_wp2_with fail
  have q0 : Below w.heap.size w (w.alloc (.cells #[strV L.name, .slice A n c, .slice B p d, .slice C q e] 26)) := (brefl w).alloc (Nat.le_refl _) _
  have x0 : Blk (w.alloc (.cells #[strV L.name, .slice A n c, .slice B p d, .slice C q e] 26)) w.heap.size 26 #[strV L.name, .slice A n c, .slice B p d, .slice C q e] := blkAt _ _ _ rfl
  (with_reducible refine (r_check _ A n c B p d C q e L 40 (H.out.belw q0) (by decide) (by decide) 0 HC.out).mono ?_); rintro e' w1 ⟨rfl, hb1⟩
  have q1 := q0.trans (hb1.mono q0.size)
  have x1 := x0.below hb1 x0.lt
  have hlw1 : w.heap.size < w1.heap.size := x1.lt
  have cx0 := x1.cell 0
  clear hb1 q0 x0
  go_wp2_with fail
  clear cx0
  go_loopw [5, 6] (fun ov iv wr => ∃ (i : Nat) (O : List UInt8), ov = strV O ∧ iv = .int .i64 (i : Nat) ∧ i ≤ n ∧ Hid (h2 ++ (L.bodies.take i).flatMap lineText = O) ∧ Below w1.heap.size w1 wr) (fun _ iv _ => n - (intOf iv).toNat)
  case atStart => exact ⟨0, h2, rfl, rfl, Nat.zero_le _, Lib.hid (by simp), brefl w1⟩
  case round =>
    obtain ⟨i, O, rfl, rfl, hi, HO, hb⟩ := hrel
    rename World => wa
    have xa := x1.below hb hlw1
    have bwa := q1.trans (hb.mono q1.size)
    have cA1 := xa.cell 1
    have hfl := flat_len lineText L.bodies i
    have hsO := size_v O
    have hlO : O.length ≤ 34 + 30000 * n := by
      rw [← HO.out, List.length_append]
      have h9 := HFB.out
      omega
    rcases Nat.lt_or_ge i n with hlt | hge
    · have hi1 : ((i : Int) < (n : Int)) = True := by simp; omega
      obtain ⟨g, o, b, e1, hg, _, hbi, hBd⟩ := (H.out.bodies.bd bwa).at_ hlt
      subst e1
      have hok := HK.out.body b (List.mem_of_getElem? hbi)
      obtain ⟨A', n', c', d0, d1, hM, _⟩ := hBd
      have hfs := flat_step lineText hbi
      have hfl2 := flat_len lineText L.bodies (i + 1)
      rw [hfs, List.length_append] at hfl2
      obtain ⟨T, hT⟩ : ∃ T, bodyText b = T := ⟨_, rfl⟩
      obtain ⟨T1, hT1⟩ : ∃ t, T ++ [10] = t := ⟨_, rfl⟩
      have hlt1 : lineText b = T1 := by rw [← hT1, ← hT]; rfl
      rw [hlt1] at hfs hfl2
      have aT1 := app_v T [10]
      rw [hT1] at aT1
      have hlT : T1.length = T.length + 1 := by rw [← hT1, List.length_append]; rfl
      have h9 := HFB.out
      have kT1 : (9223372036854775807 < T.length + 1) = False := eq_false (by omega)
      have hsT := size_v T
      have hsT1 := size_v T1
      obtain ⟨O2, eO2⟩ : ∃ t, O ++ T1 = t := ⟨_, rfl⟩
      have aO2 := app_v O T1
      rw [eO2] at aO2
      have kO2 : (9223372036854775807 < O.length + T1.length) = False := eq_false (by omega)
      have HO2 : Hid (h2 ++ (L.bodies.take (i + 1)).flatMap lineText = O2) := Lib.hid (by rw [hfs, ← List.append_assoc, HO.out, eO2])
      have HT := Lib.hid hT
      have HM := Lib.hid hM
      have HOK := Lib.hid hok
      have hlen9 := hok.2.1
      rw [hM.1] at hlen9
      have hga : g < wa.heap.size := hg
      clear hbi hok hM hfs hfl hfl2 hT hT1 hlt1 hlT h9 eO2
      go_wp2_with fail
      (with_reducible refine (r_body _ A' n' c' b HM.out (by omega) HOK.out.nm HOK.out.mks T HT.out).mono ?_); rintro e' wc ⟨rfl, qc⟩
      clear cA1 d0 d1
      go_wp2_with fail
      go_roundw
      case rel => exact ⟨i + 1, O2, rfl, by go_num, by omega, HO2, hb.trans (qc.mono hb.size)⟩
      case measure => simp [intOf]; omega
    · have hi1 : ((i : Int) < (n : Int)) = False := by simp; omega
      have hin : L.bodies.take i = L.bodies := List.take_of_length_le (by rw [HLB.out]; exact hge)
      rw [hin, HS1.out] at HO
      obtain rfl := HO.out
      have cx2 := xa.cell 2
      have HL1' := HL1.out
      clear hin HO hfl
      go_wp2_with fail
      clear cx2 cA1
      go_loopw [5, 7] (fun ov iv wr => ∃ (i2 : Nat) (O : List UInt8), ov = strV O ∧ iv = .int .i64 (i2 : Nat) ∧ i2 ≤ p ∧ Hid (S1 ++ (L.joints.take i2).flatMap (jointText L.bodies) = O) ∧ Below w1.heap.size w1 wr) (fun _ iv _ => p - (intOf iv).toNat)
      case atStart => exact ⟨0, S1, rfl, rfl, Nat.zero_le _, Lib.hid (by simp), hb⟩
      case round =>
        clear hb xa bwa hsO
        obtain ⟨i2, O, rfl, rfl, hi2, HO, hb⟩ := hrel
        rename World => wj
        have xa := x1.below hb hlw1
        have bwa := q1.trans (hb.mono q1.size)
        obtain ⟨cA0, cA1, cA2, cA3⟩ := xa.c4
        have hfl := flat_len (jointText L.bodies) L.joints i2
        have hsO := size_v O
        have hlO : O.length ≤ 34 + 30000 * n + 200 * p := by
          rw [← HO.out, List.length_append]
          have h9 := HFJ.out
          omega
        rcases Nat.lt_or_ge i2 p with hlt2 | hge2
        · have hi3 : ((i2 : Int) < (p : Int)) = True := by simp; omega
          obtain ⟨g, o, j, e1, hg, _, hbi, hJt⟩ := (H.out.joints.jt bwa).at_ hlt2
          subst e1
          have hok := HK.out.joint j (List.mem_of_getElem? hbi)
          obtain ⟨hjn, ja, jb, jp, jo, x, y, m1, m2, ea, eb, ep, eo, hx, hy, hm1, hm2, hkd⟩ := hok
          obtain ⟨d0, d1, d2, d3, d4, d5, d6, _⟩ := hJt
          obtain ⟨F1, hF1⟩ : ∃ F, x.name ++ 46 :: m1.name = F := ⟨_, rfl⟩
          obtain ⟨F2, hF2⟩ : ∃ F, y.name ++ 46 :: m2.name = F := ⟨_, rfl⟩
          have hbx := HK.out.body x (List.mem_of_getElem? hx)
          have hby := HK.out.body y (List.mem_of_getElem? hy)
          have hlF1 : F1.length ≤ 1000 := by rw [← hF1, List.length_append, List.length_cons]; have := hbx.1; have := (hbx.2.2 m1 (List.mem_of_getElem? hm1)).1; omega
          have hlF2 : F2.length ≤ 1000 := by rw [← hF2, List.length_append, List.length_cons]; have := hby.1; have := (hby.2.2 m2 (List.mem_of_getElem? hm2)).1; omega
          have HJ1 := Lib.hid (And.intro hx (And.intro hm1 (And.intro hbx.nm (And.intro (hbx.mks m1 (List.mem_of_getElem? hm1)) hF1))))
          have HJ2 := Lib.hid (And.intro hy (And.intro hm2 (And.intro hby.nm (And.intro (hby.mks m2 (List.mem_of_getElem? hm2)) hF2))))
          have hf1 : fullT L.bodies j.a j.point = F1 := by rw [ea, ep, fullT_v hx hm1, hF1]
          have hf2 : fullT L.bodies j.b j.on = F2 := by rw [eb, eo, fullT_v hy hm2, hF2]
          have hfs := flat_step (jointText L.bodies) hbi
          have hfl2 := flat_len (jointText L.bodies) L.joints (i2 + 1)
          rw [hfs, List.length_append] at hfl2
          have hsj := size_v j.name
          have hsF1 := size_v F1
          have hsF2 := size_v F2
          have hga : g < wj.heap.size := hg
          have h9 := HFJ.out
          have hlw : (jointText L.bodies j).length ≤ 200 * p := by omega
          have HW := Lib.hid hlw
          have HFS : Hid (S1 ++ (L.joints.take (i2 + 1)).flatMap (jointText L.bodies) = S1 ++ (L.joints.take i2).flatMap (jointText L.bodies) ++ jointText L.bodies j) := Lib.hid (by rw [hfs, List.append_assoc])
          have HBY := Lib.hid (And.intro hy hby)
          have HEB := Lib.hid eb
          have HF12 := Lib.hid (And.intro hf1 hf2)
          have HA := Lib.hid (And.intro ea (And.intro ep (And.intro eb eo)))
          have HD := Lib.hid (And.intro d0 (And.intro d1 (And.intro d2 (And.intro d3 (And.intro d4 (And.intro d5 d6))))))
          have HKD := Lib.hid hkd
          clear hF1 hF2 hx hy hm1 hm2 hbx hby hf1 hf2 hfs hfl hfl2 hbi h9 hlw hkd d0 d1 d2 d3 d4 d5 d6
          rcases HKD.out with ⟨hk0, ht0⟩ | ⟨hk1, jt, m3, et, hm3⟩
          · have hjk : (j.kind == 0) = true := by rw [hk0]; rfl
            have hw0 : jointWords L.bodies j = [[112, 105, 110], j.name, F1, F2] := by
              unfold jointWords
              rw [if_neg (by omega), HF12.out.1, HF12.out.2]
            obtain ⟨d0, d1, d2, d3, d4, d5, d6⟩ := HD.out
            rw [HA.out.1] at d2
            rw [HA.out.2.1] at d3
            rw [HA.out.2.2.1] at d4
            rw [HA.out.2.2.2] at d5
            clear hk0 ea ep eb eo ht0
            go_wp2_with fail
            have xp : Blk (wj.alloc (.cells #[strV j.name, .int .i64 j.kind, .int .i64 (ja : Nat), .int .i64 (jp : Nat), .int .i64 (jb : Nat), .int .i64 (jo : Nat), .int .i64 j.to_] 59)) wj.heap.size 59 #[strV j.name, .int .i64 j.kind, .int .i64 (ja : Nat), .int .i64 (jp : Nat), .int .i64 (jb : Nat), .int .i64 (jo : Nat), .int .i64 j.to_] := blkAt _ _ _ rfl
            have qb : Below wj.heap.size wj (wj.alloc (.cells #[strV j.name, .int .i64 j.kind, .int .i64 (ja : Nat), .int .i64 (jp : Nat), .int .i64 (jb : Nat), .int .i64 (jo : Nat), .int .i64 j.to_] 59)) := (brefl wj).alloc (Nat.le_refl _) _
            have HBod := Lib.hid ((H.out.bodies.bd bwa).bd qb)
            have xb := xa.below qb xa.lt
            clear d0 d1 d2 d3 d4 d5 d6 cA0 cA1 cA2 cA3
            generalize (wj.alloc (.cells #[strV j.name, .int .i64 j.kind, .int .i64 (ja : Nat), .int .i64 (jp : Nat), .int .i64 (jb : Nat), .int .i64 (jo : Nat), .int .i64 j.to_] 59)) = wb at xp qb HBod xb ⊢
            have hlb : wj.heap.size < wb.heap.size := xp.lt
            have hlb2 : w.heap.size < wb.heap.size := xb.lt
            obtain ⟨cp0, cp1, cp2, cp3, cp4, cp5, cp6⟩ := xp.c7
            obtain ⟨cb0, cb1, cb2, cb3⟩ := xb.c4
            obtain ⟨t1, et1⟩ : ∃ t, [112, 105, 110, 32] ++ j.name = t := ⟨_, rfl⟩
            have at1 := app_v ([112, 105, 110, 32]) (j.name)
            rw [et1] at at1
            have lt1 : t1.length = 4 + j.name.length := by rw [← et1, List.length_append]; try simp
            have kt1 : (9223372036854775807 < 4 + j.name.length) = False := eq_false (by omega)
            have zt1 := size_v t1
            obtain ⟨t2, et2⟩ : ∃ t, t1 ++ [32] = t := ⟨_, rfl⟩
            have at2 := app_v (t1) ([32])
            rw [et2] at at2
            have lt2 : t2.length = t1.length + 1 := by rw [← et2, List.length_append]; try simp
            have kt2 : (9223372036854775807 < t1.length + 1) = False := eq_false (by omega)
            have zt2 := size_v t2
            obtain ⟨t3, et3⟩ : ∃ t, t2 ++ F1 = t := ⟨_, rfl⟩
            have at3 := app_v (t2) (F1)
            rw [et3] at at3
            have lt3 : t3.length = t2.length + F1.length := by rw [← et3, List.length_append]; try simp
            have kt3 : (9223372036854775807 < t2.length + F1.length) = False := eq_false (by omega)
            have zt3 := size_v t3
            obtain ⟨t4, et4⟩ : ∃ t, t3 ++ [32] = t := ⟨_, rfl⟩
            have at4 := app_v (t3) ([32])
            rw [et4] at at4
            have lt4 : t4.length = t3.length + 1 := by rw [← et4, List.length_append]; try simp
            have kt4 : (9223372036854775807 < t3.length + 1) = False := eq_false (by omega)
            have zt4 := size_v t4
            obtain ⟨t5, et5⟩ : ∃ t, t4 ++ F2 = t := ⟨_, rfl⟩
            have at5 := app_v (t4) (F2)
            rw [et5] at at5
            have lt5 : t5.length = t4.length + F2.length := by rw [← et5, List.length_append]; try simp
            have kt5 : (9223372036854775807 < t4.length + F2.length) = False := eq_false (by omega)
            have zt5 := size_v t5
            obtain ⟨t6, et6⟩ : ∃ t, t5 ++ [59, 10] = t := ⟨_, rfl⟩
            have at6 := app_v (t5) ([59, 10])
            rw [et6] at at6
            have lt6 : t6.length = t5.length + 2 := by rw [← et6, List.length_append]; try simp
            have kt6 : (9223372036854775807 < t5.length + 2) = False := eq_false (by omega)
            have zt6 := size_v t6
            have hTT : jointText L.bodies j = t6 := by
              unfold jointText
              rw [hw0, ← et6, ← et5, ← et4, ← et3, ← et2, ← et1]
              simp [joinT]
            have hlW := HW.out
            rw [hTT] at hlW
            have hFS := HFS.out
            rw [hTT] at hFS
            obtain ⟨O2, eO2⟩ : ∃ t, O ++ t6 = t := ⟨_, rfl⟩
            have aO2 := app_v O t6
            rw [eO2] at aO2
            have kO2 : (9223372036854775807 < O.length + t6.length) = False := eq_false (by omega)
            have HO2 : Hid (S1 ++ (L.joints.take (i2 + 1)).flatMap (jointText L.bodies) = O2) := Lib.hid (by rw [hFS, HO.out, eO2])
            clear hTT hlW hFS hw0 eO2 et1 et2 et3 et4 et5 et6 lt1 lt2 lt3 lt4 lt5 lt6
            go_wp2_with fail
            go_region_held3 (fun w' => Sees wb.heap.size wb w') (first | with_reducible exact Sees.of (Nat.le_refl _) (by assumption) | with_reducible exact Sees.of (Nat.le_refl _) (brefl _).drew | with_reducible exact Sees.al (by assumption) _ | exact Sees.of (Nat.le_refl _) (below_drewN (brefl _) 1) | exact Sees.of (Nat.le_refl _) (below_drewN (by assumption) _))
              (first
                | (go_at_call 28; (with_reducible refine (r_full _ _ _ _ _ _ _ _ _ _ _ L.bodies 40 ?_ ja jp x m1 HJ1.out.1 HJ1.out.2.1 HJ1.out.2.2.1 HJ1.out.2.2.2.1 F1 HJ1.out.2.2.2.2).mono ?_); (exact HBod.out.bd (by first | with_reducible exact qwf2 | with_reducible exact brefl _ | exact (brefl wb).drew | exact below_drewN (brefl wb) _)); rintro e' wf1 ⟨rfl, hwf1⟩; have qwf1 : Below wb.heap.size wb wf1 := (by first | with_reducible exact bnext qwf2 hwf1 | exact bnext (brefl wb) hwf1 | exact bnext (below_drewN (brefl wb) _) hwf1))
                | (go_at_call 28; (with_reducible refine (r_full _ _ _ _ _ _ _ _ _ _ _ L.bodies 40 ?_ jb jo y m2 HJ2.out.1 HJ2.out.2.1 HJ2.out.2.2.1 HJ2.out.2.2.2.1 F2 HJ2.out.2.2.2.2).mono ?_); (exact HBod.out.bd (by first | with_reducible exact qwf1 | with_reducible exact brefl _ | exact (brefl wb).drew | exact below_drewN (brefl wb) _)); rintro e' wf2 ⟨rfl, hwf2⟩; have qwf2 : Below wb.heap.size wb wf2 := (by first | with_reducible exact bnext qwf1 hwf2 | exact bnext (brefl wb) hwf2 | exact bnext (below_drewN (brefl wb) _) hwf2)))
            all_goals
              rename_i hHeld
              clear hHeld
              first
                | (have q9 : Below wj.heap.size wj wf1 := bnext qb qwf1
                   clear cp0 cp1 cp2 cp3 cp4 cp5 cp6 cb0 cb1 cb2 cb3
                   go_wp2_with fail
                   go_roundw
                   case rel => exact ⟨i2 + 1, O2, rfl, by go_num, by omega, HO2, hb.trans (q9.mono hb.size)⟩
                   case measure => simp [intOf]; omega)
                | (have q9 : Below wj.heap.size wj wf2 := bnext qb qwf2
                   clear cp0 cp1 cp2 cp3 cp4 cp5 cp6 cb0 cb1 cb2 cb3
                   go_wp2_with fail
                   go_roundw
                   case rel => exact ⟨i2 + 1, O2, rfl, by go_num, by omega, HO2, hb.trans (q9.mono hb.size)⟩
                   case measure => simp [intOf]; omega)
          · have hjk : (j.kind == 0) = false := by rw [hk1]; rfl
            obtain ⟨F3, hF3⟩ : ∃ F, y.name ++ 46 :: m3.name = F := ⟨_, rfl⟩
            have hby := HBY.out.2
            have hlF3 : F3.length ≤ 1000 := by rw [← hF3, List.length_append, List.length_cons]; have := hby.1; have := (hby.2.2 m3 (List.mem_of_getElem? hm3)).1; omega
            have hsF3 := size_v F3
            have HJ3 := Lib.hid (And.intro HBY.out.1 (And.intro hm3 (And.intro hby.nm (And.intro (hby.mks m3 (List.mem_of_getElem? hm3)) hF3))))
            have hw0 : jointWords L.bodies j = [[115, 108, 105, 100, 101], j.name, F1, F2, F3] := by
              unfold jointWords
              have hf3 := fullT_v HBY.out.1 hm3
              rw [if_pos hk1, HF12.out.1, HF12.out.2, HEB.out, et, hf3, hF3]
            obtain ⟨d0, d1, d2, d3, d4, d5, d6⟩ := HD.out
            rw [HA.out.1] at d2
            rw [HA.out.2.1] at d3
            rw [HA.out.2.2.1] at d4
            rw [HA.out.2.2.2] at d5
            rw [et] at d6
            clear hk1 ea ep eb eo hF3 hby hm3 et
            go_wp2_with fail
            have xp : Blk (wj.alloc (.cells #[strV j.name, .int .i64 j.kind, .int .i64 (ja : Nat), .int .i64 (jp : Nat), .int .i64 (jb : Nat), .int .i64 (jo : Nat), .int .i64 (jt : Nat)] 59)) wj.heap.size 59 #[strV j.name, .int .i64 j.kind, .int .i64 (ja : Nat), .int .i64 (jp : Nat), .int .i64 (jb : Nat), .int .i64 (jo : Nat), .int .i64 (jt : Nat)] := blkAt _ _ _ rfl
            have qb : Below wj.heap.size wj (wj.alloc (.cells #[strV j.name, .int .i64 j.kind, .int .i64 (ja : Nat), .int .i64 (jp : Nat), .int .i64 (jb : Nat), .int .i64 (jo : Nat), .int .i64 (jt : Nat)] 59)) := (brefl wj).alloc (Nat.le_refl _) _
            have HBod := Lib.hid ((H.out.bodies.bd bwa).bd qb)
            have xb := xa.below qb xa.lt
            clear d0 d1 d2 d3 d4 d5 d6 cA0 cA1 cA2 cA3
            generalize (wj.alloc (.cells #[strV j.name, .int .i64 j.kind, .int .i64 (ja : Nat), .int .i64 (jp : Nat), .int .i64 (jb : Nat), .int .i64 (jo : Nat), .int .i64 (jt : Nat)] 59)) = wb at xp qb HBod xb ⊢
            have hlb : wj.heap.size < wb.heap.size := xp.lt
            have hlb2 : w.heap.size < wb.heap.size := xb.lt
            obtain ⟨cp0, cp1, cp2, cp3, cp4, cp5, cp6⟩ := xp.c7
            obtain ⟨cb0, cb1, cb2, cb3⟩ := xb.c4
            obtain ⟨t1, et1⟩ : ∃ t, [115, 108, 105, 100, 101, 32] ++ j.name = t := ⟨_, rfl⟩
            have at1 := app_v ([115, 108, 105, 100, 101, 32]) (j.name)
            rw [et1] at at1
            have lt1 : t1.length = 6 + j.name.length := by rw [← et1, List.length_append]; try simp
            have kt1 : (9223372036854775807 < 6 + j.name.length) = False := eq_false (by omega)
            have zt1 := size_v t1
            obtain ⟨t2, et2⟩ : ∃ t, t1 ++ [32] = t := ⟨_, rfl⟩
            have at2 := app_v (t1) ([32])
            rw [et2] at at2
            have lt2 : t2.length = t1.length + 1 := by rw [← et2, List.length_append]; try simp
            have kt2 : (9223372036854775807 < t1.length + 1) = False := eq_false (by omega)
            have zt2 := size_v t2
            obtain ⟨t3, et3⟩ : ∃ t, t2 ++ F1 = t := ⟨_, rfl⟩
            have at3 := app_v (t2) (F1)
            rw [et3] at at3
            have lt3 : t3.length = t2.length + F1.length := by rw [← et3, List.length_append]; try simp
            have kt3 : (9223372036854775807 < t2.length + F1.length) = False := eq_false (by omega)
            have zt3 := size_v t3
            obtain ⟨t4, et4⟩ : ∃ t, t3 ++ [32] = t := ⟨_, rfl⟩
            have at4 := app_v (t3) ([32])
            rw [et4] at at4
            have lt4 : t4.length = t3.length + 1 := by rw [← et4, List.length_append]; try simp
            have kt4 : (9223372036854775807 < t3.length + 1) = False := eq_false (by omega)
            have zt4 := size_v t4
            obtain ⟨t5, et5⟩ : ∃ t, t4 ++ F2 = t := ⟨_, rfl⟩
            have at5 := app_v (t4) (F2)
            rw [et5] at at5
            have lt5 : t5.length = t4.length + F2.length := by rw [← et5, List.length_append]; try simp
            have kt5 : (9223372036854775807 < t4.length + F2.length) = False := eq_false (by omega)
            have zt5 := size_v t5
            obtain ⟨t6, et6⟩ : ∃ t, t5 ++ [32] = t := ⟨_, rfl⟩
            have at6 := app_v (t5) ([32])
            rw [et6] at at6
            have lt6 : t6.length = t5.length + 1 := by rw [← et6, List.length_append]; try simp
            have kt6 : (9223372036854775807 < t5.length + 1) = False := eq_false (by omega)
            have zt6 := size_v t6
            obtain ⟨t7, et7⟩ : ∃ t, t6 ++ F3 = t := ⟨_, rfl⟩
            have at7 := app_v (t6) (F3)
            rw [et7] at at7
            have lt7 : t7.length = t6.length + F3.length := by rw [← et7, List.length_append]; try simp
            have kt7 : (9223372036854775807 < t6.length + F3.length) = False := eq_false (by omega)
            have zt7 := size_v t7
            obtain ⟨t8, et8⟩ : ∃ t, t7 ++ [59, 10] = t := ⟨_, rfl⟩
            have at8 := app_v (t7) ([59, 10])
            rw [et8] at at8
            have lt8 : t8.length = t7.length + 2 := by rw [← et8, List.length_append]; try simp
            have kt8 : (9223372036854775807 < t7.length + 2) = False := eq_false (by omega)
            have zt8 := size_v t8
            have hTT : jointText L.bodies j = t8 := by
              unfold jointText
              rw [hw0, ← et8, ← et7, ← et6, ← et5, ← et4, ← et3, ← et2, ← et1]
              simp [joinT]
            have hlW := HW.out
            rw [hTT] at hlW
            have hFS := HFS.out
            rw [hTT] at hFS
            obtain ⟨O2, eO2⟩ : ∃ t, O ++ t8 = t := ⟨_, rfl⟩
            have aO2 := app_v O t8
            rw [eO2] at aO2
            have kO2 : (9223372036854775807 < O.length + t8.length) = False := eq_false (by omega)
            have HO2 : Hid (S1 ++ (L.joints.take (i2 + 1)).flatMap (jointText L.bodies) = O2) := Lib.hid (by rw [hFS, HO.out, eO2])
            clear hTT hlW hFS hw0 eO2 et1 et2 et3 et4 et5 et6 et7 et8 lt1 lt2 lt3 lt4 lt5 lt6 lt7 lt8
            go_wp2_with fail
            go_region_held3 (fun w' => Sees wb.heap.size wb w') (first | with_reducible exact Sees.of (Nat.le_refl _) (by assumption) | with_reducible exact Sees.of (Nat.le_refl _) (brefl _).drew | with_reducible exact Sees.al (by assumption) _ | exact Sees.of (Nat.le_refl _) (below_drewN (brefl _) 1) | exact Sees.of (Nat.le_refl _) (below_drewN (by assumption) _))
              (first
                | (go_at_call 28; (with_reducible refine (r_full _ _ _ _ _ _ _ _ _ _ _ L.bodies 40 ?_ ja jp x m1 HJ1.out.1 HJ1.out.2.1 HJ1.out.2.2.1 HJ1.out.2.2.2.1 F1 HJ1.out.2.2.2.2).mono ?_); (exact HBod.out.bd (by first | with_reducible exact qwf2 | with_reducible exact qwf3 | with_reducible exact brefl _ | exact (brefl wb).drew | exact below_drewN (brefl wb) _)); rintro e' wf1 ⟨rfl, hwf1⟩; have qwf1 : Below wb.heap.size wb wf1 := (by first | with_reducible exact bnext qwf2 hwf1 | with_reducible exact bnext qwf3 hwf1 | exact bnext (brefl wb) hwf1 | exact bnext (below_drewN (brefl wb) _) hwf1))
                | (go_at_call 28; (with_reducible refine (r_full _ _ _ _ _ _ _ _ _ _ _ L.bodies 40 ?_ jb jo y m2 HJ2.out.1 HJ2.out.2.1 HJ2.out.2.2.1 HJ2.out.2.2.2.1 F2 HJ2.out.2.2.2.2).mono ?_); (exact HBod.out.bd (by first | with_reducible exact qwf1 | with_reducible exact qwf3 | with_reducible exact brefl _ | exact (brefl wb).drew | exact below_drewN (brefl wb) _)); rintro e' wf2 ⟨rfl, hwf2⟩; have qwf2 : Below wb.heap.size wb wf2 := (by first | with_reducible exact bnext qwf1 hwf2 | with_reducible exact bnext qwf3 hwf2 | exact bnext (brefl wb) hwf2 | exact bnext (below_drewN (brefl wb) _) hwf2))
                | (go_at_call 28; (with_reducible refine (r_full _ _ _ _ _ _ _ _ _ _ _ L.bodies 40 ?_ jb jt y m3 HJ3.out.1 HJ3.out.2.1 HJ3.out.2.2.1 HJ3.out.2.2.2.1 F3 HJ3.out.2.2.2.2).mono ?_); (exact HBod.out.bd (by first | with_reducible exact qwf1 | with_reducible exact qwf2 | with_reducible exact brefl _ | exact (brefl wb).drew | exact below_drewN (brefl wb) _)); rintro e' wf3 ⟨rfl, hwf3⟩; have qwf3 : Below wb.heap.size wb wf3 := (by first | with_reducible exact bnext qwf1 hwf3 | with_reducible exact bnext qwf2 hwf3 | exact bnext (brefl wb) hwf3 | exact bnext (below_drewN (brefl wb) _) hwf3)))
            all_goals
              rename_i hHeld
              clear hHeld
              first
                | (have q9 : Below wj.heap.size wj wf1 := bnext qb qwf1
                   clear cp0 cp1 cp2 cp3 cp4 cp5 cp6 cb0 cb1 cb2 cb3
                   go_wp2_with fail
                   go_roundw
                   case rel => exact ⟨i2 + 1, O2, rfl, by go_num, by omega, HO2, hb.trans (q9.mono hb.size)⟩
                   case measure => simp [intOf]; omega)
                | (have q9 : Below wj.heap.size wj wf2 := bnext qb qwf2
                   clear cp0 cp1 cp2 cp3 cp4 cp5 cp6 cb0 cb1 cb2 cb3
                   go_wp2_with fail
                   go_roundw
                   case rel => exact ⟨i2 + 1, O2, rfl, by go_num, by omega, HO2, hb.trans (q9.mono hb.size)⟩
                   case measure => simp [intOf]; omega)
                | (have q9 : Below wj.heap.size wj wf3 := bnext qb qwf3
                   clear cp0 cp1 cp2 cp3 cp4 cp5 cp6 cb0 cb1 cb2 cb3
                   go_wp2_with fail
                   go_roundw
                   case rel => exact ⟨i2 + 1, O2, rfl, by go_num, by omega, HO2, hb.trans (q9.mono hb.size)⟩
                   case measure => simp [intOf]; omega)
        · have hi3 : ((i2 : Int) < (p : Int)) = False := by simp; omega
          have hin : L.joints.take i2 = L.joints := List.take_of_length_le (by rw [HLJ.out]; exact hge2)
          rw [hin, HS2.out] at HO
          obtain rfl := HO.out
          have HL2' := HL2.out
          clear hin HO hfl cA0 cA1 cA3
          go_wp2_with fail
          clear cA2
          go_loopw [5, 9] (fun ov iv wr => ∃ (i3 : Nat) (O : List UInt8), ov = strV O ∧ iv = .int .i64 (i3 : Nat) ∧ i3 ≤ q ∧ Hid (S2 ++ (L.drivers.take i3).flatMap (driverText L.bodies) = O) ∧ Below w1.heap.size w1 wr) (fun _ iv _ => q - (intOf iv).toNat)
          case atStart => exact ⟨0, S2, rfl, rfl, Nat.zero_le _, Lib.hid (by simp), hb⟩
          case round =>
            clear hb xa bwa hsO
            obtain ⟨i3, O, rfl, rfl, hi3', HO, hb⟩ := hrel
            rename World => wk
            have xa := x1.below hb hlw1
            have bwa := q1.trans (hb.mono q1.size)
            obtain ⟨cA0, cA1, cA2, cA3⟩ := xa.c4
            have hfl := flat_len (driverText L.bodies) L.drivers i3
            have hsO := size_v O
            have hlO : O.length ≤ 34 + 30000 * n + 200 * p + 60 * q := by
              rw [← HO.out, List.length_append]
              have h9 := HFD.out
              omega
            rcases Nat.lt_or_ge i3 q with hlt3 | hge3
            · have hi4 : ((i3 : Int) < (q : Int)) = True := by simp; omega
              obtain ⟨g, o, dv, e1, hg, _, hbi, hDr⟩ := (H.out.drivers.dr bwa).at_ hlt3
              subst e1
              obtain ⟨hdn, di, y, ei, hy⟩ := HK.out.driver dv (List.mem_of_getElem? hbi)
              have hil : di < n := by rw [← HLB.out]; exact (List.getElem?_eq_some_iff.1 hy).1
              obtain ⟨gb, ob, y', e1, hgb, _, hy', hBy⟩ := (H.out.bodies.bd bwa).at_ hil
              rw [hy] at hy'
              injection hy' with hy'
              subst hy' e1
              obtain ⟨A', n', c', k0, k1, hM, _⟩ := hBy
              have hby := HK.out.body y (List.mem_of_getElem? hy)
              have hyn := hby.nm
              obtain ⟨d0, d1, _⟩ := hDr
              rw [ei] at d1
              have hsd := size_v dv.name
              have hsy := size_v y.name
              obtain ⟨g1, eg1⟩ : ∃ t, [100, 114, 105, 118, 101, 114, 32] ++ dv.name = t := ⟨_, rfl⟩
              have ag1 := app_v ([100, 114, 105, 118, 101, 114, 32]) (dv.name)
              rw [eg1] at ag1
              have lg1 : g1.length = 7 + dv.name.length := by rw [← eg1, List.length_append]; try simp
              have kg1 : (9223372036854775807 < 7 + dv.name.length) = False := eq_false (by omega)
              have zg1 := size_v g1
              obtain ⟨g2, eg2⟩ : ∃ t, g1 ++ [32] = t := ⟨_, rfl⟩
              have ag2 := app_v (g1) ([32])
              rw [eg2] at ag2
              have lg2 : g2.length = g1.length + 1 := by rw [← eg2, List.length_append]; try simp
              have kg2 : (9223372036854775807 < g1.length + 1) = False := eq_false (by omega)
              have zg2 := size_v g2
              obtain ⟨g3, eg3⟩ : ∃ t, g2 ++ y.name = t := ⟨_, rfl⟩
              have ag3 := app_v (g2) (y.name)
              rw [eg3] at ag3
              have lg3 : g3.length = g2.length + y.name.length := by rw [← eg3, List.length_append]; try simp
              have kg3 : (9223372036854775807 < g2.length + y.name.length) = False := eq_false (by omega)
              have zg3 := size_v g3
              obtain ⟨g4, eg4⟩ : ∃ t, g3 ++ [59, 10] = t := ⟨_, rfl⟩
              have ag4 := app_v (g3) ([59, 10])
              rw [eg4] at ag4
              have lg4 : g4.length = g3.length + 2 := by rw [← eg4, List.length_append]; try simp
              have kg4 : (9223372036854775807 < g3.length + 2) = False := eq_false (by omega)
              have zg4 := size_v g4
              have hdt : driverText L.bodies dv = g4 := by
                rw [← eg4, ← eg3, ← eg2, ← eg1]
                unfold driverText
                rw [ei, nameT_v hy]
              have hfs := flat_step (driverText L.bodies) hbi
              have hfl2 := flat_len (driverText L.bodies) L.drivers (i3 + 1)
              rw [hfs, List.length_append, hdt] at hfl2
              rw [hdt] at hfs
              have h9 := HFD.out
              obtain ⟨O2, eO2⟩ : ∃ t, O ++ g4 = t := ⟨_, rfl⟩
              have aO2 := app_v O g4
              rw [eO2] at aO2
              have kO2 : (9223372036854775807 < O.length + g4.length) = False := eq_false (by omega)
              have HO2 : Hid (S2 ++ (L.drivers.take (i3 + 1)).flatMap (driverText L.bodies) = O2) := Lib.hid (by rw [hfs, ← List.append_assoc, HO.out, eO2])
              have f1 : ((di : Int) < (n : Int)) := by omega
              have f2 : ((i3 : Int) < (q : Int)) := by omega
              have hga : g < wk.heap.size := hg
              have hgb' : gb < wk.heap.size := hgb
              clear hM k1 hby hy ei hdt hfs hfl hfl2 h9 hbi eO2 lg1 lg2 lg3 lg4 eg1 eg2 eg3 eg4
              go_wp2_with fail
              go_quiet (fail)
              go_wp2_with fail
              go_roundw
              case rel => first | exact ⟨i3 + 1, O2, rfl, by go_num, by omega, HO2, hb⟩ | exact ⟨i3 + 1, O2, rfl, by go_num, by omega, HO2, below_drewN hb _⟩
              case measure => simp [intOf]; omega
            · have hi4 : ((i3 : Int) < (q : Int)) = False := by simp; omega
              have hin : L.drivers.take i3 = L.drivers := List.take_of_length_le (by rw [HLD.out]; exact hge3)
              rw [hin, HS3.out] at HO
              obtain rfl := HO.out
              obtain ⟨v, hv⟩ : ∃ v, longL L.bodies = v := ⟨_, rfl⟩
              have HV := Lib.hid hv
              clear hin hv hfl
              go_wp2_with fail
              (with_reducible refine (r_long _ A n c B p d C q e L.name L.bodies (H.out.bodies.bd bwa) (by omega) (fun b hb => by have := (HK.out.body b hb).np; omega) v HV.out).mono ?_); rintro e' wz ⟨rfl, qz⟩
              have bz := bwa.trans (qz.mono bwa.size)
              clear cA0 cA1 cA2 cA3
              by_cases h65 : 65536 < S3.length
              · have f65 : ((65536 : Int) < (S3.length : Int)) = True := eq_true (by omega)
                have hoE : outErr L = 4 := by unfold outErr; rw [if_neg (by rw [HC.out]; decide), if_pos (Or.inr (by rw [HT3.out]; exact h65))]
                have hoT : outText L = [] := by unfold outText; rw [if_neg (by rw [hoE]; decide)]
                have HOE := Lib.hid (And.intro hoE hoT)
                clear hoE hoT
                cases v
                all_goals
                  go_wp2_with fail
                  go_ret2
                  exact ⟨by rw [HOE.out.1, HOE.out.2]; rfl, bz⟩
              · have f65 : ((65536 : Int) < (S3.length : Int)) = False := eq_false (by omega)
                have H65 := Lib.hid h65
                cases v
                · have hoE : outErr L = 0 := by
                    unfold outErr
                    rw [if_neg (by rw [HC.out]; decide), if_neg (by rw [HT3.out, HV.out]; intro hh; rcases hh with hh | hh; exact absurd hh (by decide); exact H65.out hh)]
                  have hoT : outText L = S3 := by unfold outText; rw [if_pos hoE, HT3.out]
                  have HOE := Lib.hid (And.intro hoE hoT)
                  clear hoE hoT
                  go_wp2_with fail
                  go_ret2
                  exact ⟨by rw [HOE.out.1, HOE.out.2]; rfl, bz⟩
                · have hoE : outErr L = 4 := by unfold outErr; rw [if_neg (by rw [HC.out]; decide), if_pos (Or.inl HV.out)]
                  have hoT : outText L = [] := by unfold outText; rw [if_neg (by rw [hoE]; decide)]
                  have HOE := Lib.hid (And.intro hoE hoT)
                  clear hoE hoT
                  go_wp2_with fail
                  go_ret2
                  exact ⟨by rw [HOE.out.1, HOE.out.2]; rfl, bz⟩
end Go.Proofs.YtckjakojllcdoaaGreatDoor

/- Linkages: plain: the text of an accepted linkage tells it; its lines. -/
namespace Go.Proofs.YtckjakojllcdoaaGreatDoor
open Go Go.RowKit Bn
theorem errs_at {α : Type} {f : List α → α → Int} : ∀ (l prev : List α), errs f prev l = 0 → ∀ (i : Nat) (a : α), l[i]? = some a → f (prev ++ l.take i) a = 0
  | [], _, _, i, a, ha => by simp at ha
  | x :: r, prev, h, i, a, ha => by
    unfold errs at h
    split at h
    · rename_i h0
      cases i with
      | zero => simp at ha; subst ha; simpa using h0
      | succ i =>
        have h2 := errs_at r _ h i a (by simpa using ha)
        simpa using h2
    · rename_i h0; exact absurd h h0
theorem tw_dist {α : Type} {nm : α → List UInt8} {l : List α} (h : ∀ (i : Nat) (a : α), l[i]? = some a → twN ((l.take i).map nm) (nm a) = false) {i j : Nat} {a b : α} (ha : l[i]? = some a) (hb : l[j]? = some b) (e : nm a = nm b) : i = j := by
  rcases Nat.lt_trichotomy i j with h1 | h1 | h1
  · have := twM_hit ha h1 e
    rw [h j b hb] at this; cases this
  · exact h1
  · have := twM_hit hb h1 e.symm
    rw [h i a ha] at this; cases this
theorem name_all {s : List UInt8} (h : nameOk s = true) : s ≠ [] ∧ ∀ c ∈ s, isPart c = true := by
  unfold nameOk at h
  simp only [Bool.and_eq_true, decide_eq_true_eq] at h
  obtain ⟨⟨h1, h2⟩, _⟩ := h
  cases s with
  | nil => simp [wordN] at h1
  | cons x t =>
    refine ⟨by simp, ?_⟩
    rw [wordN] at h1 h2
    split at h1
    · rename_i hx
      rw [if_pos hx, List.length_cons] at h2
      have h3 : t.takeWhile isPart = t := by
        have h4 : t.takeWhile isPart <+: t := List.takeWhile_prefix _
        exact h4.eq_of_length (by omega)
      intro c hc
      rcases List.mem_cons.1 hc with rfl | hc
      · unfold isPart; rw [hx]; rfl
      · rw [← h3] at hc
        exact (List.all_eq_true.1 (List.all_takeWhile)) c hc
    · omega
theorem part_ne {c : UInt8} (h : isPart c = true) : c ≠ 10 ∧ c ≠ 32 ∧ c ≠ 46 ∧ c ≠ 59 ∧ c ≠ 125 := by
  refine ⟨?_, ?_, ?_, ?_, ?_⟩ <;> (rintro rfl; exact absurd h (by decide))
theorem name_no {s : List UInt8} (h : nameOk s = true) : 10 ∉ s ∧ 32 ∉ s ∧ 46 ∉ s ∧ 59 ∉ s ∧ 125 ∉ s := by
  have := (name_all h).2
  refine ⟨fun hc => (part_ne (this _ hc)).1 rfl, fun hc => (part_ne (this _ hc)).2.1 rfl, fun hc => (part_ne (this _ hc)).2.2.1 rfl, fun hc => (part_ne (this _ hc)).2.2.2.1 rfl, fun hc => (part_ne (this _ hc)).2.2.2.2 rfl⟩
theorem itoa_mem {z : Int} {c : UInt8} (h : c ∈ Lib.itoa z) : isDg c = true ∨ c = 45 := okZ_mem (itoa_ok z).1 h
theorem rat_mem {q : Rat} {c : UInt8} (h : c ∈ ratText q) : isDg c = true ∨ c = 45 ∨ c = 47 := by
  unfold ratText at h
  split at h
  · rcases itoa_mem h with h | h
    · exact .inl h
    · exact .inr (.inl h)
  · rcases List.mem_append.1 h with h | h
    · rcases itoa_mem h with h | h
      · exact .inl h
      · exact .inr (.inl h)
    · rcases List.mem_cons.1 h with h | h
      · exact .inr (.inr h)
      · rcases itoa_mem h with h | h
        · exact .inl h
        · exact .inr (.inl h)
theorem rat_no (q : Rat) : 10 ∉ ratText q ∧ 32 ∉ ratText q ∧ 59 ∉ ratText q ∧ 125 ∉ ratText q := by
  refine ⟨?_, ?_, ?_, ?_⟩ <;> (intro h; rcases rat_mem h with h | h | h <;> revert h <;> decide)
def RdW (r : RD) : Prop := Wds r.num ∧ Wds r.den
def MkW (m : MarkL) : Prop := RdW m.x ∧ RdW m.y
def LkW (L : LinkL) : Prop := ∀ b ∈ L.bodies, ∀ m ∈ b.pts, MkW m
structure MkF (m : MarkL) : Prop where
  name : nameOk m.name = true
  x : m.x.ok = true
  y : m.y.ok = true
theorem markErr_full {p : List MarkL} {m : MarkL} (h : markErr p m = 0) : MkF m ∧ twN (p.map MarkL.name) m.name = false := by
  unfold markErr at h
  repeat' split at h
  all_goals first | omega | skip
  rename_i h1 h2 h3 h4
  exact ⟨⟨by simpa using h1, by simpa using h3, by simpa using h4⟩, by simpa using h2⟩
structure BdF (b : BodyL) : Prop where
  name : nameOk b.name = true
  pts : ∀ m ∈ b.pts, MkF m
  dist : ∀ {i j : Nat} {m m' : MarkL}, b.pts[i]? = some m → b.pts[j]? = some m' → m.name = m'.name → i = j
theorem bodyErr_full {p : List BodyL} {b : BodyL} (h : bodyErr p b = 0) : BdF b ∧ twN (p.map BodyL.name) b.name = false := by
  unfold bodyErr at h
  split at h
  · omega
  rename_i h1
  split at h
  · omega
  rename_i h2
  split at h
  · omega
  have hm : ∀ (i : Nat) (a : MarkL), b.pts[i]? = some a → MkF a ∧ twN ((b.pts.take i).map MarkL.name) a.name = false := fun i a ha => markErr_full (by simpa using errs_at _ _ h i a ha)
  refine ⟨⟨by simpa using h1, fun m hm' => ?_, fun {i j m m'} => tw_dist fun i a ha => (hm i a ha).2⟩, by simpa using h2⟩
  obtain ⟨i, hi, e⟩ := List.getElem_of_mem hm'
  exact (hm i m (by rw [List.getElem?_eq_getElem hi, e])).1
structure LkF (L : LinkL) : Prop where
  ok : LkOk L
  name : nameOk L.name = true
  body : ∀ b ∈ L.bodies, BdF b
  dist : ∀ {i j : Nat} {a b : BodyL}, L.bodies[i]? = some a → L.bodies[j]? = some b → a.name = b.name → i = j
  joint : ∀ j ∈ L.joints, nameOk j.name = true
  driver : ∀ d ∈ L.drivers, nameOk d.name = true
theorem lkErr_full {L : LinkL} (h : lkErr L = 0) : LkF L := by
  have hok := lkErr_ok h
  unfold lkErr at h
  split at h
  · omega
  rename_i h1
  split at h
  · omega
  split at h
  · omega
  split at h
  · rename_i h4; exact absurd h h4
  rename_i h4
  split at h
  · omega
  split at h
  · rename_i h6; exact absurd h h6
  rename_i h6
  split at h
  · omega
  have hb : ∀ (i : Nat) (a : BodyL), L.bodies[i]? = some a → BdF a ∧ twN ((L.bodies.take i).map BodyL.name) a.name = false := fun i a ha => bodyErr_full (by have := errs_at _ _ (Decidable.not_not.1 h4) i a ha; rwa [List.nil_append] at this)
  refine ⟨hok, by simpa using h1, fun b hb' => ?_, fun {i j a b} => tw_dist fun i a ha => (hb i a ha).2, fun j hj => ?_, fun d hd => ?_⟩
  · obtain ⟨i, hi, e⟩ := List.getElem_of_mem hb'
    exact (hb i b (by rw [List.getElem?_eq_getElem hi, e])).1
  · obtain ⟨q, hq⟩ := errs_all _ _ (by simpa using h6) j hj
    unfold jointErr at hq
    split at hq
    · omega
    rename_i h9
    simpa using h9
  · obtain ⟨q, hq⟩ := errs_all _ _ h d hd
    unfold driverErr at hq
    split at hq
    · omega
    rename_i h9
    simpa using h9
/-! Lines. -/
def bodyLine (b : BodyL) : List UInt8 := bodyText b
def jointLine (bs : List BodyL) (j : JointL) : List UInt8 := joinT (jointWords bs j) ++ [59]
def driverLine (bs : List BodyL) (d : DriverL) : List UInt8 := [100, 114, 105, 118, 101, 114, 32] ++ d.name ++ [32] ++ nameT bs d.body ++ [59]
def headLine (nm : List UInt8) : List UInt8 := [108, 105, 110, 107, 97, 103, 101, 32] ++ nm ++ [59]
def lkLines (L : LinkL) : List (List UInt8) := headLine L.name :: (L.bodies.map bodyLine ++ L.joints.map (jointLine L.bodies) ++ L.drivers.map (driverLine L.bodies))
def endl (l : List UInt8) : List UInt8 := l ++ [10]
theorem lkText_lines (L : LinkL) : lkText L = (lkLines L).flatMap endl := by
  have e1 : ∀ l : List BodyL, l.flatMap lineText = (l.map bodyLine).flatMap endl := fun l => by
    induction l with
    | nil => rfl
    | cons a l ih => simp only [List.map_cons, List.flatMap_cons, ih]; rfl
  have e2 : ∀ l : List JointL, l.flatMap (jointText L.bodies) = (l.map (jointLine L.bodies)).flatMap endl := fun l => by
    induction l with
    | nil => rfl
    | cons a l ih => simp only [List.map_cons, List.flatMap_cons, ih]; unfold jointText jointLine endl; simp
  have e3 : ∀ l : List DriverL, l.flatMap (driverText L.bodies) = (l.map (driverLine L.bodies)).flatMap endl := fun l => by
    induction l with
    | nil => rfl
    | cons a l ih => simp only [List.map_cons, List.flatMap_cons, ih]; unfold driverText driverLine endl; simp
  unfold lkText lkLines
  rw [e1, e2, e3]
  simp only [List.flatMap_cons, List.flatMap_append]
  unfold headText headLine endl
  simp
theorem marks_no {l : List MarkL} (h : ∀ m ∈ l, nameOk m.name = true) : 10 ∉ l.flatMap markText := by
  intro hc
  obtain ⟨m, hm, hc⟩ := List.mem_flatMap.1 hc
  unfold markText at hc
  have h1 := (name_no (h m hm)).1
  have h2 := (rat_no m.x.q).1
  have h3 := (rat_no m.y.q).1
  simp [h1, h2, h3] at hc
theorem body_no {b : BodyL} (h : BdF b) : 10 ∉ bodyLine b := by
  have h1 := (name_no h.name).1
  have h2 := marks_no fun m hm => (h.pts m hm).name
  unfold bodyLine bodyText
  simp only [List.mem_append, not_or]
  exact ⟨⟨⟨⟨by decide, h1⟩, by decide⟩, h2⟩, by decide⟩
theorem full_v {bs : List BodyL} (hb : ∀ b ∈ bs, BdF b) (i j : Int) : fullT bs i j = [] ∨ ∃ (x : BodyL) (m : MarkL), nameOk x.name = true ∧ nameOk m.name = true ∧ fullT bs i j = x.name ++ 46 :: m.name := by
  unfold fullT
  split
  · rename_i b h1
    split
    · rename_i m h2
      have hB := hb b (List.mem_of_getElem? h1)
      exact .inr ⟨b, m, hB.name, (hB.pts m (List.mem_of_getElem? h2)).name, rfl⟩
    · exact .inl rfl
  · exact .inl rfl
theorem full_no {bs : List BodyL} (hb : ∀ b ∈ bs, BdF b) (i j : Int) : 10 ∉ fullT bs i j ∧ 32 ∉ fullT bs i j := by
  rcases full_v hb i j with h | ⟨x, m, h1, h2, h⟩
  · rw [h]; simp
  · rw [h]
    have a1 := name_no h1
    have a2 := name_no h2
    simp [a1.1, a1.2.1, a2.1, a2.2.1]
theorem name_no_at {bs : List BodyL} (hb : ∀ b ∈ bs, BdF b) (i : Int) : 10 ∉ nameT bs i := by
  unfold nameT
  split
  · rename_i b h1
    exact (name_no (hb b (List.mem_of_getElem? h1)).name).1
  · simp
theorem joint_no {bs : List BodyL} (hb : ∀ b ∈ bs, BdF b) {j : JointL} (hj : nameOk j.name = true) : 10 ∉ jointLine bs j := by
  have h1 := (name_no hj).1
  have f := fun a b => (full_no hb a b).1
  unfold jointLine jointWords
  split <;> simp [joinT, h1, f]
theorem driver_no {bs : List BodyL} (hb : ∀ b ∈ bs, BdF b) {d : DriverL} (hd : nameOk d.name = true) : 10 ∉ driverLine bs d := by
  have h1 := (name_no hd).1
  have h2 := name_no_at hb d.body
  unfold driverLine
  simp [h1, h2]
theorem head_no {nm : List UInt8} (h : nameOk nm = true) : 10 ∉ headLine nm := by
  have h1 := (name_no h).1
  unfold headLine
  simp [h1]
theorem lines_no {L : LinkL} (h : LkF L) : ∀ l ∈ lkLines L, 10 ∉ l := by
  intro l hl
  unfold lkLines at hl
  rcases List.mem_cons.1 hl with rfl | hl
  · exact head_no h.name
  rcases List.mem_append.1 hl with hl | hl
  · rcases List.mem_append.1 hl with hl | hl
    · obtain ⟨b, hb, rfl⟩ := List.mem_map.1 hl
      exact body_no (h.body b hb)
    · obtain ⟨j, hj, rfl⟩ := List.mem_map.1 hl
      exact joint_no h.body (h.joint j hj)
  · obtain ⟨d, hd, rfl⟩ := List.mem_map.1 hl
    exact driver_no h.body (h.driver d hd)
theorem lines_count : ∀ {l : List (List UInt8)}, (∀ x ∈ l, 10 ∉ x) → (l.flatMap endl).count 10 = l.length
  | [], _ => rfl
  | x :: l, h => by
    have h1 := lines_count (l := l) fun y hy => h y (by simp [hy])
    have h2 : x.count 10 = 0 := List.count_eq_zero.2 (h x (by simp))
    rw [List.flatMap_cons, List.count_append, h1]
    unfold endl
    rw [List.count_append, h2]
    simp
    omega
theorem text_count {L : LinkL} (h : LkF L) : Lib.countByte (lkText L) 10 = 1 + L.bodies.length + L.joints.length + L.drivers.length := by
  unfold Lib.countByte
  rw [lkText_lines, lines_count (lines_no h)]
  unfold lkLines
  simp
  omega
theorem lines_end : ∀ {l : List (List UInt8)}, l ≠ [] → ∃ s, l.flatMap endl = s ++ [10]
  | [], h => absurd rfl h
  | [x], _ => ⟨x, by simp [endl]⟩
  | x :: y :: l, _ => by
    obtain ⟨s, hs⟩ := lines_end (l := y :: l) (by simp)
    exact ⟨endl x ++ s, by rw [List.flatMap_cons, hs, List.append_assoc]⟩
theorem text_suffix (L : LinkL) : Lib.hasSuffix (lkText L) [10] = true := by
  obtain ⟨s, hs⟩ := lines_end (l := lkLines L) (by unfold lkLines; simp)
  unfold Lib.hasSuffix
  rw [lkText_lines, hs, List.isSuffixOf_iff_suffix]
  exact ⟨s, rfl⟩
end Go.Proofs.YtckjakojllcdoaaGreatDoor

/- Walks: a linkage too large for a statement. -/
namespace Go.Proofs.YtckjakojllcdoaaGreatDoor
open Go Go.RowKit Bn
attribute [local go_sem ↓] Go.wp_at_zero Go.wp_at_succ
def lgM (m : MarkL) : Bool := decide (40 < m.x.num.length + m.x.den.length + m.y.num.length + m.y.den.length)
def lgB (b : BodyL) : Bool := decide (40 < b.pts.length) || b.pts.any lgM
def lgL (L : LinkL) : Bool := decide (40 < L.bodies.length) || decide (60 < L.joints.length) || decide (40 < L.drivers.length) || L.bodies.any lgB
theorem wrap_i64 {u : Int} (h1 : -9223372036854775808 ≤ u) (h2 : u ≤ 9223372036854775807) : IntKind.i64.wrap u = u := by rw [IntKind.wrap_i64]; omega
theorem big47 {n : Nat} (h : n ≤ reachBytes) : n ≤ 140737488355328 := by unfold reachBytes at h; omega
theorem RatAt.words {k : Nat} {w : World} {g o : Nat} {r : RD} (h : RatAt w g o r k) : RdW r := by
  obtain ⟨b, A, n, c, D, m, e, _, _, _, hQ⟩ := h
  exact ⟨hQ.2.1.1, hQ.2.2.1.1⟩
theorem SlS.markW {k : Nat} {w : World} {A : Option Addr} {n c : Nat} {l : List MarkL} (h : SlS (MkAt k) 7 w A n c l) : ∀ m ∈ l, MkW m := by
  intro m hm
  obtain ⟨i, hi, e⟩ := List.getElem_of_mem hm
  obtain ⟨g, o, a, _, _, _, ha, hp⟩ := h.at_ (i := i) (by rw [← h.1]; exact hi)
  rw [List.getElem?_eq_getElem hi] at ha
  injection ha with ha
  rw [← ha, e] at hp
  exact ⟨hp.2.1.words, hp.2.2.1.words⟩
theorem LkS.words {k : Nat} {w : World} {A B C : Option Addr} {n c p d q e : Nat} {L : LinkL} (h : LkS k w A n c B p d C q e L) : LkW L := by
  intro b hb
  obtain ⟨i, hi, e1⟩ := List.getElem_of_mem hb
  obtain ⟨g, o, a, _, _, _, ha, hp⟩ := h.bodies.at_ (i := i) (by rw [← h.bodies.1]; exact hi)
  rw [List.getElem?_eq_getElem hi] at ha
  injection ha with ha
  rw [← ha, e1] at hp
  obtain ⟨A', n', c', _, _, hM, _⟩ := hp
  exact hM.markW
theorem RatAt.small {K k : Nat} {w : World} {g o : Nat} {r : RD} (h : RatAt w g o r K) (h1 : r.num.length ≤ k) (h2 : r.den.length ≤ k) : RatAt w g o r k := by
  obtain ⟨b, A, n, c, D, m, e, c1, c2, c3, hQ⟩ := h
  refine ⟨b, A, n, c, D, m, e, c1, c2, c3, hQ.1, hQ.2.1, hQ.2.2.1, ?_, ?_⟩
  · rw [hQ.2.1.2.1]; exact h1
  · rw [hQ.2.2.1.2.1]; exact h2
theorem lgM_small {m : MarkL} (h : lgM m = false) : m.x.num.length ≤ 40 ∧ m.x.den.length ≤ 40 ∧ m.y.num.length ≤ 40 ∧ m.y.den.length ≤ 40 := by
  unfold lgM at h
  simp at h
  omega
theorem SlS.mono_ {α : Type} {P P' : World → Nat → Nat → α → Prop} {s : Nat} {w : World} {A : Option Addr} {n c : Nat} {l : List α} (h : SlS P s w A n c l) (hP : ∀ g o a, a ∈ l → P w g o a → P' w g o a) : SlS P' s w A n c l := by
  refine ⟨h.1, h.2.1, fun hn => ?_⟩
  obtain ⟨g, o, e, hg, h3⟩ := h.2.2 hn
  exact ⟨g, o, e, hg, fun i a ha => hP _ _ _ (List.mem_of_getElem? ha) (h3 i a ha)⟩
theorem SlS.marks40 {K : Nat} {w : World} {A : Option Addr} {n c : Nat} {l : List MarkL} (h : SlS (MkAt K) 7 w A n c l) (hl : l.any lgM = false) : SlS (MkAt 40) 7 w A n c l :=
  h.mono_ fun g o m hm hp => by
    have := lgM_small (by simpa using List.any_eq_false.1 hl m hm)
    exact ⟨hp.1, hp.2.1.small this.1 this.2.1, hp.2.2.1.small this.2.2.1 this.2.2.2, hp.2.2.2⟩
theorem LkS.of40 {K : Nat} {w : World} {A B C : Option Addr} {n c p d q e : Nat} {L : LinkL} (h : LkS K w A n c B p d C q e L) (hl : lgL L = false) : LkS 40 w A n c B p d C q e L := by
  unfold lgL at hl
  simp only [Bool.or_eq_false_iff] at hl
  refine ⟨h.name, h.bodies.mono_ fun g o b hb hp => ?_, h.joints, h.drivers⟩
  obtain ⟨A', n', c', c0, c1, hM, hn⟩ := hp
  have h1 : lgB b = false := by simpa using List.any_eq_false.1 hl.2 b hb
  unfold lgB at h1
  rw [Bool.or_eq_false_iff] at h1
  exact ⟨A', n', c', c0, c1, hM.marks40 h1.2, hn⟩
theorem l_large (w : World) (A : Option Addr) (n c : Nat) (B : Option Addr) (p d : Nat) (C : Option Addr) (q e : Nat) (L : LinkL) (h : LkS reachBytes w A n c B p d C q e L) (v : Bool) (hv : lgL L = v) :
  Calls Tryz.prog 8 #[.agg #[strV L.name, .slice A n c, .slice B p d, .slice C q e]] w (RetV w (.bool v)) := by
 have HV := Lib.hid hv
 have HL := Lib.hid (And.intro h.bodies.1 (And.intro h.joints.1 h.drivers.1))
 have hnc := h.bodies.2.1
 have H := Lib.hid h
 clear h hv
 go_enter Tryz.func8, Tryz.ntmps8
 by_cases ha : 40 < n
 ·have fa : ((40 : Int) < (n : Int)) = True := eq_true (by omega)
  have hvt : v = true := by rw [← HV.out]; unfold lgL; rw [HL.out.1, decide_eq_true ha]; rfl
  subst hvt
  go_wp2_with fail
  go_ret
  exact ⟨rfl, (brefl w).alloc (Nat.le_refl _) _⟩
 have fa : ((40 : Int) < (n : Int)) = False := eq_false (by omega)
 by_cases hb : 60 < p
 ·have fb : ((60 : Int) < (p : Int)) = True := eq_true (by omega)
  have hvt : v = true := by rw [← HV.out]; unfold lgL; rw [HL.out.2.1, decide_eq_true hb, Bool.or_true]; rfl
  subst hvt
  go_wp2_with fail
  go_ret
  exact ⟨rfl, (brefl w).alloc (Nat.le_refl _) _⟩
 have fb : ((60 : Int) < (p : Int)) = False := eq_false (by omega)
 by_cases hc : 40 < q
 ·have fc : ((40 : Int) < (q : Int)) = True := eq_true (by omega)
  have hvt : v = true := by rw [← HV.out]; unfold lgL; rw [HL.out.2.2, decide_eq_true hc, Bool.or_true]; rfl
  subst hvt
  go_wp2_with fail
  go_ret
  exact ⟨rfl, (brefl w).alloc (Nat.le_refl _) _⟩
 have fc : ((40 : Int) < (q : Int)) = False := eq_false (by omega)
 have HV2 : Hid (L.bodies.any lgB = v) := Lib.hid (by rw [← HV.out]; unfold lgL; rw [HL.out.1, HL.out.2.1, HL.out.2.2, decide_eq_false ha, decide_eq_false hb, decide_eq_false hc]; rfl)
 clear HV
 go_wp2_with fail
 go_loopw [3] (fun iv wr => ∃ i : Nat, iv = .int .i64 (i : Nat) ∧ i ≤ n ∧ Hid ((L.bodies.take i).any lgB = false) ∧ Blk wr w.heap.size 26 #[strV L.name, .slice A n c, .slice B p d, .slice C q e] ∧ Below w.heap.size w wr) (fun iv _ => n - (intOf iv).toNat)
 case atStart => exact ⟨0, rfl, Nat.zero_le _, Lib.hid rfl, blkAt _ _ _ (by simp), (brefl w).alloc (Nat.le_refl _) _⟩
 case round =>
  obtain ⟨i, rfl, hi, HI, xL, hb0⟩ := hrel
  rename World => wa
  have hlL : w.heap.size < wa.heap.size := xL.lt
  have cL := xL.cell 1
  rcases Nat.lt_or_ge i n with hlt | hge
  ·have hi1 : ((i : Int) < (n : Int)) = True := by simp; omega
   obtain ⟨g, o, b, e1, hg, _, hbi, hB⟩ := (H.out.bodies.bd hb0).at_ hlt
   subst e1
   obtain ⟨A', n', c', c0, c1, hM, hnm⟩ := hB
   have hnc' := hM.2.1
   have HM := Lib.hid hM
   have HBI := Lib.hid hbi
   by_cases hp4 : 40 < n'
   ·have fp : ((40 : Int) < (n' : Int)) = True := eq_true (by omega)
    have hvt : v = true := by rw [← HV2.out]; exact any_hit HBI.out (by unfold lgB; rw [hM.1, decide_eq_true hp4]; rfl)
    subst hvt
    clear hM hbi
    go_wp2_with fail
    go_ret
    exact ⟨rfl, hb0⟩
   have fp : ((40 : Int) < (n' : Int)) = False := eq_false (by omega)
   clear hM hbi
   go_wp2_with fail
   clear cL c0
   go_loopw [4] (fun jv w2 => ∃ j : Nat, jv = .int .i64 (j : Nat) ∧ j ≤ n' ∧ Hid ((b.pts.take j).any lgM = false) ∧ Below wa.heap.size wa w2) (fun jv _ => n' - (intOf jv).toNat)
   case atStart => exact ⟨0, rfl, Nat.zero_le _, Lib.hid rfl, brefl wa⟩
   case round =>
    obtain ⟨j, rfl, hj, HJ, hb2⟩ := hrel
    rename World => wb
    have xL2 := xL.below hb2 xL.lt
    have hlL2 : w.heap.size < wb.heap.size := xL2.lt
    have cL2 := xL2.cell 1
    have bwb := hb0.trans (hb2.mono hb0.size)
    have c1 := cell_belw c1 hb2
    rcases Nat.lt_or_ge j n' with hjl | hjg
    ·have hj1 : ((j : Int) < (n' : Int)) = True := by simp; omega
     obtain ⟨g', o', m, e1, hg', _, hmj, hM⟩ := (HM.out.mk_ hb2).at_ hjl
     subst e1
     have HMJ := Lib.hid hmj
     obtain ⟨d0, ⟨b1, A1, n1, c1', D1, m1, e1, d1, d2, d3, hQ1⟩, ⟨b2, A2, n2, c2, D2, m2, e2, d4, d5, d6, hQ2⟩, hmn⟩ := hM
     have d2 : wb.cell? ⟨g', o' + j * 7 + 2, none⟩ = some (.slice A1 n1 c1') := d2
     have d3 : wb.cell? ⟨g', o' + j * 7 + 3, none⟩ = some (.slice D1 m1 e1) := d3
     have d5 : wb.cell? ⟨g', o' + j * 7 + 5, none⟩ = some (.slice A2 n2 c2) := d5
     have d6 : wb.cell? ⟨g', o' + j * 7 + 6, none⟩ = some (.slice D2 m2 e2) := d6
     have HQ := Lib.hid (And.intro hQ1.2.1.2.1 (And.intro hQ1.2.2.1.2.1 (And.intro hQ2.2.1.2.1 hQ2.2.2.1.2.1)))
     have s1 := big47 hQ1.2.2.2.1
     have s2 := big47 hQ1.2.2.2.2
     have s3 := big47 hQ2.2.2.2.1
     have s4 := big47 hQ2.2.2.2.2
     have hgb : g < wb.heap.size := by have := hb2.size; omega
     have u1 : IntKind.i64.wrap ((n1 : Int) + (m1 : Int)) = (n1 : Int) + (m1 : Int) := wrap_i64 (by omega) (by omega)
     have u2 : IntKind.i64.wrap ((n1 : Int) + (m1 : Int) + (n2 : Int)) = (n1 : Int) + (m1 : Int) + (n2 : Int) := wrap_i64 (by omega) (by omega)
     have u3 : IntKind.i64.wrap ((n1 : Int) + (m1 : Int) + (n2 : Int) + (m2 : Int)) = (n1 : Int) + (m1 : Int) + (n2 : Int) + (m2 : Int) := wrap_i64 (by omega) (by omega)
     clear hmj hQ1 hQ2
     by_cases h40 : 40 < n1 + m1 + n2 + m2
     ·have f4 : ((40 : Int) < (n1 : Int) + (m1 : Int) + (n2 : Int) + (m2 : Int)) = True := eq_true (by omega)
      have hm6 : lgM m = true := by unfold lgM; rw [← HQ.out.1, ← HQ.out.2.1, ← HQ.out.2.2.1, ← HQ.out.2.2.2]; exact decide_eq_true h40
      have hvt : v = true := by rw [← HV2.out]; exact any_hit HBI.out (by unfold lgB; rw [any_hit HMJ.out hm6, Bool.or_true])
      subst hvt
      clear s1 s2 s3 s4
      go_wp2_with fail
      go_ret
      exact ⟨rfl, bwb.alloc (by have := bwb.size; omega) _⟩
     ·have f4 : ((40 : Int) < (n1 : Int) + (m1 : Int) + (n2 : Int) + (m2 : Int)) = False := eq_false (by omega)
      have hm6 : lgM m = false := by unfold lgM; rw [← HQ.out.1, ← HQ.out.2.1, ← HQ.out.2.2.1, ← HQ.out.2.2.2]; exact decide_eq_false h40
      have HJ2 := Lib.hid (any_step HMJ.out HJ.out hm6)
      clear hm6 s1 s2 s3 s4
      go_wp2_with fail
      go_roundw
      case rel => exact ⟨j + 1, by go_num, by omega, HJ2, hb2.alloc hb2.size _⟩
      case measure => simp [intOf]; omega
    ·have hj1 : ((j : Int) < (n' : Int)) = False := by simp; omega
     have hjn : b.pts.take j = b.pts := List.take_of_length_le (by rw [HM.out.1]; exact hjg)
     rw [hjn] at HJ
     have HI2 := Lib.hid (any_step HBI.out HI.out (by unfold lgB; rw [HM.out.1, decide_eq_false hp4, HJ.out]; rfl : lgB b = false))
     clear hjn
     go_wp2_with fail
     go_roundw
     case rel => exact ⟨i + 1, by go_num, by omega, HI2, xL2, bwb⟩
     case measure => simp [intOf]; omega
  ·have hi1 : ((i : Int) < (n : Int)) = False := by simp; omega
   have hin : L.bodies.take i = L.bodies := List.take_of_length_le (by rw [HL.out.1]; exact hge)
   rw [hin] at HI
   have hvf : v = false := by rw [← HV2.out]; exact HI.out
   subst hvf
   clear hin
   go_wp2_with fail
   go_ret
   exact ⟨rfl, hb0⟩
end Go.Proofs.YtckjakojllcdoaaGreatDoor

/- A region that draws its order and stores to nothing ahead of its last operation: what was there stays, what each operation yields stays true of a world that has grown. -/
namespace Go.Proofs.YtckjakojllcdoaaGreatDoor
open Go Go.RowKit Bn
def LinG (ops : Array Oper) (fr : (Nat → Value) → Act) (R : Nat → Value → World → Prop) (W : World) (L : Array Bool) (a : Act) (w : World) : Prop :=
  ∃ x, a = fr x ∧ Below W.heap.size W w ∧ (∀ i, L.getD i false = true → R i (x i) w) ∧
  (∀ i o, ops[i]? = some o → L.getD i false = true → ∀ e ∈ o.after, Region.binds .any e = true → L.getD e.on false = true)
section
variable {P : Program} {ops : Array Oper} {Q : Exit → Act → World → Prop} {fr : (Nat → Value) → Act} {R : Nat → Value → World → Prop} {id : Nat} {w : World} {x0 : Nat → Value}
theorem linG_hcl {L : Array Bool} {i : Nat} {o : Oper} (hlt : i < L.size) (ho : ops[i]? = some o) (hall : ∀ e ∈ o.after, Region.binds .any e = true → L.getD e.on false = true)
    (hcl : ∀ i o, ops[i]? = some o → L.getD i false = true → ∀ e ∈ o.after, Region.binds .any e = true → L.getD e.on false = true) :
    ∀ i' o', ops[i']? = some o' → (L.setIfInBounds i true).getD i' false = true → ∀ e ∈ o'.after, Region.binds .any e = true → (L.setIfInBounds i true).getD e.on false = true := by
  intro i' o' ho' hl e he hbd
  rw [getD_set hlt] at hl ⊢
  by_cases h : i' = i
  · subst h; rw [ho] at ho'; injection ho' with ho'; subst ho'
    rw [hall e he hbd]; simp
  · have : L.getD i' false = true := by simpa [h] using hl
    rw [hcl i' o' ho' this e he hbd]; simp
def GrowStep (P : Program) (ops : Array Oper) (Q : Exit → Act → World → Prop) (fr : (Nat → Value) → Act) (R : Nat → Value → World → Prop) (w : World) (i : Nat) (o : Oper) : Prop :=
  ∀ x wq, Below w.heap.size w wq → (∀ e ∈ o.after, Region.binds .any e = true → R e.on (x e.on) wq) → ∀ K' : Act → World → Prop, Shut (∀ v w', R i v w' → Below wq.heap.size wq w' → K' ((fr x).put o.dst v) w') →
      if Region.wanted o (yielded ops (fr x).tmps) = true then Oper.wp P o (fr x) wq K' Q else K' ((fr x).put o.dst undef) wq
def reachB (l : List Oper) (n : Nat) : Bool := (List.range n).all fun j => (List.range (n + 1)).any fun k => decide (j < k) && match l[k]? with | some o => o.after.any (fun e => Region.binds .any e && e.on == j) | none => false
theorem reach_of {l : List Oper} {n j : Nat} (h : reachB l n = true) (hj : j < n) : ∃ k o, j < k ∧ k ≤ n ∧ (l.toArray)[k]? = some o ∧ ∃ e ∈ o.after, Region.binds .any e = true ∧ e.on = j := by
  unfold reachB at h
  rw [List.all_eq_true] at h
  have h1 := h j (List.mem_range.2 hj)
  rw [List.any_eq_true] at h1
  obtain ⟨k, hk, h2⟩ := h1
  rw [Bool.and_eq_true, decide_eq_true_eq] at h2
  obtain ⟨hjk, h2⟩ := h2
  cases hl : l[k]? with
  | none => rw [hl] at h2; cases h2
  | some o =>
    rw [hl] at h2
    obtain ⟨e, he, h3⟩ := Array.any_eq_true'.1 h2
    rw [Bool.and_eq_true] at h3
    exact ⟨k, o, hjk, by have := List.mem_range.1 hk; omega, by simpa using hl, e, he, h3.1, by simpa using h3.2⟩
theorem wp_region_fin {n : Nat} (hm : P.follows .mixedOrders = true) (hn : ops.size = n + 1)
    (hput : ∀ i o, ops[i]? = some o → i < n → ∀ x v, (fr x).put o.dst v = fr (upd x i v))
    (hac : ∀ i o, ops[i]? = some o → ∀ e ∈ o.after, Region.binds .any e = true → e.on < i)
    (hR : ∀ i v w w', R i v w → Below w.heap.size w w' → R i v w')
    (hreach : ∀ j, j < n → ∃ k o, j < k ∧ k ≤ n ∧ ops[k]? = some o ∧ ∃ e ∈ o.after, Region.binds .any e = true ∧ e.on = j)
    (hstep : ∀ i o, ops[i]? = some o → i < n → GrowStep P ops Q fr R w i o)
    (hlast : ∀ o, ops[n]? = some o → ∀ x wq, Below w.heap.size w wq → (∀ j, j < n → R j (x j) wq) → ∀ K' : Act → World → Prop, Shut (∀ a' w', Q .normal a' w' → K' a' w') →
      if Region.wanted o (yielded ops (fr x).tmps) = true then Oper.wp P o (fr x) wq K' Q else K' ((fr x).put o.dst undef) wq) :
    (Code.region id ops true).wp P Q (fr x0) w := by
  refine wp_region_any hm (wpAny_inv (fun L a w' => (L.getD n false = false ∧ LinG ops fr R w L a w') ∨ ((∀ i, i < ops.size → L.getD i false = true) ∧ Q .normal a w')) ?_ ?_ _ _ _ _ (by simp) ?_ ?_)
  · rintro L a w1 i hs hi hcase
    obtain ⟨hun, o, ho, hall⟩ := mem_ready.1 hi
    have hlt : i < L.size := by
      rcases Nat.lt_or_ge i L.size with h | h
      · exact h
      · rw [Array.getD_eq_getD_getElem?, Array.getElem?_eq_none h] at hun; cases hun
    have hunf : L.getD i false = false := by
      rw [Array.getD_eq_getD_getElem?, Array.getElem?_eq_getElem hlt] at hun ⊢; exact hun
    rcases hcase with ⟨hLn, x, rfl, hb, hr, hcl⟩ | ⟨hdone, _⟩
    · have hdep : ∀ e ∈ o.after, Region.binds .any e = true → R e.on (x e.on) w1 := fun e he hbd => hr _ (hall e he hbd)
      refine wpOp_step ho fun K' hK => ?_
      rcases Nat.lt_or_ge i n with hin | hin
      · refine hstep i o ho hin x w1 hb hdep K' (fun v w' hRv hbw => hK _ _ (Or.inl ⟨?_, ?_⟩))
        · rw [getD_set hlt, hLn]; simp; omega
        · refine ⟨upd x i v, hput i o ho hin x v, hb.trans (hbw.mono hb.size), fun j hj => ?_, linG_hcl hlt ho hall hcl⟩
          by_cases h : j = i
          · subst h; rw [upd_same]; exact hRv
          · rw [upd_ne _ _ h]; rw [getD_set hlt] at hj; exact hR _ _ _ _ (hr j (by simpa [h] using hj)) hbw
      · have e : i = n := by omega
        subst e
        have hallj : ∀ m j, j < i → i - j ≤ m → L.getD j false = true := by
          intro m
          induction m with
          | zero => intro j hj hm; omega
          | succ m ih =>
            intro j hj hm
            obtain ⟨k, o', hjk, hk, ho', e, he, hbd, hea⟩ := hreach j hj
            rcases Nat.lt_or_ge k i with h | h
            · rw [← hea]; exact hcl k o' ho' (ih k h (by omega)) e he hbd
            · have e2 : k = i := by omega
              subst e2
              rw [ho] at ho'
              injection ho' with ho'
              subst ho'
              rw [← hea]; exact hall e he hbd
        refine hlast o ho x w1 hb (fun j hj => hr j (hallj (i - j) j hj (Nat.le_refl _))) K' (fun a' w' hq => hK _ _ (Or.inr ⟨fun j hj => ?_, hq⟩))
        rw [getD_set hlt]
        by_cases h : j = i
        · simp [h]
        · rw [hallj (i - j) j (by omega) (Nat.le_refl _)]; simp
    · have := hdone i (by omega)
      rw [hunf] at this; cases this
  · rintro L a w1 hs hr0 (⟨hLn, x, rfl, hb, hr, hcl⟩ | ⟨_, hq⟩)
    · have hallL : ∀ i, i < ops.size → L.getD i false = true := by
        intro i
        induction i using Nat.strongRecOn with
        | ind i ih =>
          intro hi
          cases h : L.getD i false
          · exfalso
            have : i ∈ Region.ready .any ops L := by
              refine mem_ready.2 ⟨?_, ops[i], Array.getElem?_eq_getElem hi, fun e he hbd => ?_⟩
              · rw [Array.getD_eq_getD_getElem?, Array.getElem?_eq_getElem (by omega)] at h ⊢; exact h
              · have h1 := hac i _ (Array.getElem?_eq_getElem hi) e he hbd
                exact ih e.on h1 (by omega)
            rw [hr0] at this; cases this
          · rfl
      have := hallL n (by omega)
      rw [hLn] at this; cases this
    · exact hq
  · simp
  · have hz : ∀ j, (Array.replicate ops.size false).getD j false = false := by
      intro j; rw [Array.getD_eq_getD_getElem?, Array.getElem?_replicate]; split <;> rfl
    refine Or.inl ⟨hz n, x0, rfl, (Below.refl w.heap.size w).drew, fun i h => ?_, fun i o _ h => ?_⟩ <;> rw [hz] at h <;> cases h
end
def Grw (p : Value → World → Prop) : Prop := ∀ v w w', p v w → Below w.heap.size w w' → p v w'
def AllGrw : List (Value → World → Prop) → Prop
  | [] => True
  | p :: l => Grw p ∧ AllGrw l
theorem AllGrw.get : ∀ (l : List (Value → World → Prop)), AllGrw l → ∀ i v w w', l.getD i (fun _ _ => True) v w → Below w.heap.size w w' → l.getD i (fun _ _ => True) v w' := by
  intro l
  induction l with
  | nil => intro _ i v w w' _ _; simp
  | cons p l ih =>
    intro h i v w w' hp hk
    cases i with
    | zero => exact h.1 v w w' hp hk
    | succ i => exact ih h.2 i v w w' hp hk
theorem gEq (u : Value) : Grw (PEq u) := fun _ _ _ h _ => h
theorem gAny : Grw PAny := fun _ _ _ h _ => h
theorem gQ (q : Rat) (k : Nat) : Grw (VQ q k) := fun _ _ _ ⟨b, A, n, c, D, m, e, h0, h⟩ hk => ⟨b, A, n, c, D, m, e, h0, h.belw hk⟩
end Go.Proofs.YtckjakojllcdoaaGreatDoor

/- Linkages in memory: a store into a variable that holds no linkage yet leaves them. -/
namespace Go.Proofs.YtckjakojllcdoaaGreatDoor
open Go Go.RowKit Bn
def ZeroAt (w : World) (g0 : Nat) : Prop := ∀ o v, w.cell? ⟨g0, o, none⟩ = some v → v = strV [] ∨ v = .slice none 0 0 ∨ v = .bool false
def Off (g0 : Nat) (w w' : World) : Prop := (∀ g, g ≠ g0 → w'.heap[g]? = w.heap[g]?) ∧ w'.heap.size = w.heap.size
theorem Off.refl (g0 : Nat) (w : World) : Off g0 w w := ⟨fun _ _ => rfl, rfl⟩
theorem Off.set {g0 : Nat} {w w' : World} (h : Off g0 w w') (i : Nat) (u : Value) : Off g0 w (w'.setCell ⟨g0, i, none⟩ u) :=
  ⟨fun g hg => (Below.heap_setCell w' ⟨g0, i, none⟩ u g hg).trans (h.1 g hg), by simp [World.setCell, h.2]⟩
section
variable {g0 : Nat} {w w' : World}
theorem ZeroAt.str {g o : Nat} {s : List UInt8} (z : ZeroAt w g0) (h : w.cell? ⟨g, o, none⟩ = some (strV s)) (hs : s ≠ []) : g ≠ g0 := by
  rintro rfl
  rcases z o _ h with e | e | e
  · injection e with e
    injection e with e
    injection e with e
    exact hs e
  · cases e
  · cases e
theorem cell_off {g o : Nat} (hg : g ≠ g0) (h : Off g0 w w') : w'.cell? ⟨g, o, none⟩ = w.cell? ⟨g, o, none⟩ := by
  unfold World.cell?
  rw [h.1 g hg]
theorem Wd.off {A : Option Addr} {n c : Nat} {l : List Nat} (x : Wd w A n c l) (z : ZeroAt w g0) (h : Off g0 w w') : Wd w' A n c l := by
  refine ⟨x.1, x.2.1, x.2.2.1, fun hn => ?_⟩
  obtain ⟨g, o, cur, fr, e, hr, hc⟩ := x.2.2.2 hn
  have hne : g ≠ g0 := by
    rintro rfl
    have h0 := hc 0 hn
    rw [← hr.cell] at h0
    rcases z _ _ h0 with e | e | e <;> cases e
  exact ⟨g, o, cur, fr, e, hr.same (h.1 g hne), hc⟩
theorem QD.off {b : Bool} {A D : Option Addr} {n c m e k : Nat} {r : RD} (x : QD w b A n c D m e r k) (z : ZeroAt w g0) (h : Off g0 w w') : QD w' b A n c D m e r k := ⟨x.1, x.2.1.off z h, x.2.2.1.off z h, x.2.2.2⟩
theorem RatAt.off {g o k : Nat} {r : RD} (hg : g ≠ g0) (x : RatAt w g o r k) (z : ZeroAt w g0) (h : Off g0 w w') : RatAt w' g o r k := by
  obtain ⟨b, A, n, c, D, m, e, h1, h2, h3, h4⟩ := x
  exact ⟨b, A, n, c, D, m, e, (cell_off hg h).trans h1, (cell_off hg h).trans h2, (cell_off hg h).trans h3, h4.off z h⟩
theorem MkAt.off {g o k : Nat} {m : MarkL} (hm : m.name ≠ []) (x : MkAt k w g o m) (z : ZeroAt w g0) (h : Off g0 w w') : MkAt k w' g o m := by
  have hg := z.str x.1 hm
  exact ⟨(cell_off hg h).trans x.1, x.2.1.off hg z h, x.2.2.1.off hg z h, x.2.2.2⟩
theorem SlS.off {α : Type} {P : World → Nat → Nat → α → Prop} {s : Nat} {A : Option Addr} {n c : Nat} {l : List α} (x : SlS P s w A n c l) (hP : ∀ g o a, a ∈ l → P w g o a → P w' g o a) (h : Off g0 w w') : SlS P s w' A n c l := by
  refine ⟨x.1, x.2.1, fun hn => ?_⟩
  obtain ⟨g, o, e, hg, h3⟩ := x.2.2 hn
  exact ⟨g, o, e, by rw [h.2]; exact hg, fun i a ha => hP _ _ _ (List.mem_of_getElem? ha) (h3 i a ha)⟩
theorem SlS.offM {k : Nat} {A : Option Addr} {n c : Nat} {l : List MarkL} (hm : ∀ m ∈ l, m.name ≠ []) (x : SlS (MkAt k) 7 w A n c l) (z : ZeroAt w g0) (h : Off g0 w w') : SlS (MkAt k) 7 w' A n c l := x.off (fun _ _ a ha y => y.off (hm a ha) z h) h
theorem BdAt.off {g o k : Nat} {b : BodyL} (hb : b.name ≠ []) (hm : ∀ m ∈ b.pts, m.name ≠ []) (x : BdAt k w g o b) (z : ZeroAt w g0) (h : Off g0 w w') : BdAt k w' g o b := by
  obtain ⟨A, n, c, h1, h2, h3, h4⟩ := x
  have hg := z.str h1 hb
  exact ⟨A, n, c, (cell_off hg h).trans h1, (cell_off hg h).trans h2, h3.offM hm z h, h4⟩
theorem JtAt.off {g o : Nat} {j : JointL} (hj : j.name ≠ []) (x : JtAt w g o j) (z : ZeroAt w g0) (h : Off g0 w w') : JtAt w' g o j := by
  have hg := z.str x.1 hj
  exact ⟨(cell_off hg h).trans x.1, (cell_off hg h).trans x.2.1, (cell_off hg h).trans x.2.2.1, (cell_off hg h).trans x.2.2.2.1, (cell_off hg h).trans x.2.2.2.2.1, (cell_off hg h).trans x.2.2.2.2.2.1, (cell_off hg h).trans x.2.2.2.2.2.2.1, x.2.2.2.2.2.2.2⟩
theorem DrAt.off {g o : Nat} {d : DriverL} (hd : d.name ≠ []) (x : DrAt w g o d) (z : ZeroAt w g0) (h : Off g0 w w') : DrAt w' g o d := by
  have hg := z.str x.1 hd
  exact ⟨(cell_off hg h).trans x.1, (cell_off hg h).trans x.2.1, x.2.2⟩
structure NmAll (L : LinkL) : Prop where
  bodies : ∀ b ∈ L.bodies, b.name ≠ [] ∧ ∀ m ∈ b.pts, m.name ≠ []
  joints : ∀ j ∈ L.joints, j.name ≠ []
  drivers : ∀ d ∈ L.drivers, d.name ≠ []
theorem LkS.off {k : Nat} {A B C : Option Addr} {n c p d q e : Nat} {L : LinkL} (hL : NmAll L) (x : LkS k w A n c B p d C q e L) (z : ZeroAt w g0) (h : Off g0 w w') : LkS k w' A n c B p d C q e L :=
  ⟨x.name, x.bodies.off (fun _ _ a ha y => y.off (hL.bodies a ha).1 (hL.bodies a ha).2 z h) h, x.joints.off (fun _ _ a ha y => y.off (hL.joints a ha) z h) h, x.drivers.off (fun _ _ a ha y => y.off (hL.drivers a ha) z h) h⟩
theorem Blk.zero {g t : Nat} {cs : Array Value} (x : Blk w g t cs) (h : cs.toList.all (fun v => match v with | .string s => s.data.isEmpty | .slice none 0 0 => true | .bool false => true | _ => false) = true) : ZeroAt w g := by
  intro o v hv
  rw [x.cell] at hv
  have hm : v ∈ cs.toList := by rw [Array.mem_toList_iff]; exact Array.mem_of_getElem? hv
  have := List.all_eq_true.1 h v hm
  split at this
  · rename_i s
    left
    obtain ⟨d⟩ := s
    have e : d = #[] := by simpa using this
    subst e
    rfl
  · exact .inr (.inl rfl)
  · exact .inr (.inr rfl)
  · cases this
end
end Go.Proofs.YtckjakojllcdoaaGreatDoor
