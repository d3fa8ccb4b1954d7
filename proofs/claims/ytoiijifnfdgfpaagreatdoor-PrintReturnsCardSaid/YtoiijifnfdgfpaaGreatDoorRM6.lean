/- PrintReturns: the text of a linkage is read as the same linkage; for every input the law returns true. The listed library variables are tied to the program text. -/
import Derived.Deep.RegionHeld3
import Derived.Deep.DrawnRows
import Derived.Laws.StructEq
import Derived.BigQuiet
import Derived.Test.YtoiijifnfdgfpaaGreatDoorCards
import Derived.Test.YtoiijifnfdgfpaaGreatDoorTie
import Derived.ProofKit
import Derived.WalkKit
import Derived.OpenShut
import Derived.Deep.DeepHandedRow
import Derived.Lib.LaidTab
import Derived.Shelf.Vars
import Derived.Deep.Slices
import Derived.SizedLaws
import Derived.ChangeMaps5
import Derived.Test.YtoiijifnfdgfpaaGreatDoorRM5
set_option linter.unusedVariables false
set_option maxHeartbeats 8000000
set_option maxRecDepth 100000
/- Walks: fields that differ. -/
namespace Go.Proofs.YtoiijifnfdgfpaaGreatDoor
open Go Go.RowKit Bn
attribute [local go_sem ↓] Go.wp_at_zero Go.wp_at_succ
theorem b_words_ne (w : World) (A n c l) (wa : Wd w A n c l) (A' n' c' l') (wb : Wd w A' n' c' l') (hne : l ≠ l') (hn : n ≤ 1000000000) (hn' : n' ≤ 1000000000) :
  Calls Tryz.prog 80 #[.slice A n c, .slice A' n' c'] w (RetV w (.bool false)) := by
 by_cases hnn : n' = n
 ·subst hnn
  obtain ⟨j, hj, hjn⟩ := wd_ne (by rw [← wa.2.1, ← wb.2.1]) hne
  rw [← wa.2.1] at hj
  have HA := Lib.hid wa
  have HB := Lib.hid wb
  have HJ := Lib.hid hjn
  clear wa wb hne hjn
  go_enter Tryz.func80, Tryz.ntmps80
  go_wp2_with fail
  go_loopw [5] (fun iv wr => ∃ (i q : Nat), i ≤ j ∧ iv = .int .i64 (i : Nat) ∧ wr = w.drewN q) (fun iv _ => n' - (intOf iv).toNat)
  case atStart => exact ⟨0, 0, Nat.zero_le _, rfl, rfl⟩
  case round =>
   obtain ⟨i, q, hi, rfl, rfl⟩ := hrel
   have hlt : i < n' := by omega
   obtain ⟨g, o, rfl, hc1⟩ := HA.out.at_ (by omega)
   obtain ⟨g', o', rfl, hc2⟩ := HB.out.at_ (by omega)
   have h1 := hc1 i hlt
   have h2 := hc2 i hlt
   have hi0 : (0 : Int) ≤ (i : Int) := by omega
   have hi1 : (i : Int) < (n' : Int) := by omega
   have HIJ := Lib.hid (show i = j → wd l i ≠ wd l' i by rintro rfl; exact HJ.out)
   generalize wd l i = x at h1 HIJ
   generalize wd l' i = y at h2 HIJ
   clear hc1 hc2
   by_cases hxy : x = y
   ·subst hxy
    have hij : i < j := by
     rcases Nat.lt_or_ge i j with h | h
     ·exact h
     ·exact absurd rfl (HIJ.out (by omega))
    go_wp2_with fail
    go_quiet (fail)
    go_wp2
    go_roundw
    case rel => exact ⟨i + 1, _, by omega, by go_num, rfl⟩
    case measure => simp [intOf]; omega
   ·have hxy2 : ¬ (x : Int) = (y : Int) := by omega
    go_wp2_with fail
    go_quiet (fail)
    go_wp2
    go_ret
    exact retB rfl (by repeat (first | exact Below.refl _ _ | refine below_drewN ?_ _))
 ·have e1 : ((n : Int) == (n' : Int)) = false := by simp; omega
  have e2 : ¬ (n : Int) = (n' : Int) := by omega
  clear wa wb
  go_enter Tryz.func80, Tryz.ntmps80
  go_wp2_with fail
  go_ret
  exact retB rfl (brefl w)
theorem b_rat_ne1 (w : World) (b : Bool) (A : Option Addr) (n c : Nat) (D : Option Addr) (m e : Nat) (r : RD) (k : Nat) (h : QD w b A n c D m e r k) (b' : Bool) (A' : Option Addr) (n' c' : Nat) (D' : Option Addr) (m' e' : Nat) (r' : RD) (k' : Nat) (h' : QD w b' A' n' c' D' m' e' r' k') (hne : b ≠ b') (hk : k ≤ 1000000) (hk' : k' ≤ 1000000) :
  Calls Tryz.prog 36 #[.agg #[.bool b, .slice A n c, .slice D m e], .agg #[.bool b', .slice A' n' c', .slice D' m' e']] w (RetV w (.bool false)) := by
 obtain ⟨e1, ha, hd, hk1, hk2⟩ := h
 obtain ⟨e1', ha', hd', hk1', hk2'⟩ := h'
 have HE : (b == b') = false := by simpa using hne
 have HE2 : ¬ b = b' := hne
 clear ha hd ha' hd' e1 e1'
 go_enter Tryz.func36, Tryz.ntmps36
 go_wp2_with fail
 go_ret
 exact retB rfl (((brefl w).alloc (Nat.le_refl _) _).alloc (by simp) _)
theorem b_rat_ne2 (w : World) (b : Bool) (A : Option Addr) (n c : Nat) (D : Option Addr) (m e : Nat) (r : RD) (k : Nat) (h : QD w b A n c D m e r k) (b' : Bool) (A' : Option Addr) (n' c' : Nat) (D' : Option Addr) (m' e' : Nat) (r' : RD) (k' : Nat) (h' : QD w b' A' n' c' D' m' e' r' k') (hbb : b = b') (hne : r.num ≠ r'.num) (hk : k ≤ 1000000) (hk' : k' ≤ 1000000) :
  Calls Tryz.prog 36 #[.agg #[.bool b, .slice A n c, .slice D m e], .agg #[.bool b', .slice A' n' c', .slice D' m' e']] w (RetV w (.bool false)) := by
 obtain ⟨e1, ha, hd, hk1, hk2⟩ := h
 obtain ⟨e1', ha', hd', hk1', hk2'⟩ := h'
 subst hbb
 have HE : (b == b) = true := by simp
 have HA := Lib.hid (And.intro ha ha')
 have HD := Lib.hid (And.intro hd hd')
 have HN := Lib.hid hne
 clear ha ha' hd hd' hne e1 e1'
 go_enter Tryz.func36, Tryz.ntmps36
 go_wp2_with fail
 (with_reducible refine (b_words_ne _ A n c r.num ?_ A' n' c' r'.num ?_ ?_ ?_ ?_).mono ?_); (exact HA.out.1.keep (((Kp.refl _).alloc _).alloc _)); (exact HA.out.2.keep (((Kp.refl _).alloc _).alloc _)); (exact HN.out); (omega); (omega); rintro e w1 ⟨rfl, hb⟩
 have q1 : Below w.heap.size w w1 := (((Below.refl _ _).alloc (Nat.le_refl _) _).alloc (by simp) _).trans (hb.mono (by simp <;> omega))
 have x0 : Blk w1 w.heap.size 72 #[.bool b, .slice A n c, .slice D m e] := ((blkAt w _ _ rfl).alloc _).below hb (by simp <;> omega)
 have x1 : Blk w1 (w.heap.size + 1) 72 #[.bool b, .slice A' n' c', .slice D' m' e'] := (blkAt _ _ _ (by simp)).below hb (by simp)
 have c02 : w1.cell? ⟨w.heap.size, 2, none⟩ = some (.slice D m e) := x0.cell 2
 have c12 : w1.cell? ⟨w.heap.size + 1, 2, none⟩ = some (.slice D' m' e') := x1.cell 2
 clear hb
 go_wp2_with fail
 go_ret
 exact ⟨rfl, q1⟩
theorem b_rat_ne3 (w : World) (b : Bool) (A : Option Addr) (n c : Nat) (D : Option Addr) (m e : Nat) (r : RD) (k : Nat) (h : QD w b A n c D m e r k) (b' : Bool) (A' : Option Addr) (n' c' : Nat) (D' : Option Addr) (m' e' : Nat) (r' : RD) (k' : Nat) (h' : QD w b' A' n' c' D' m' e' r' k') (hbb : b = b') (hnn : r.num = r'.num) (hne : r.den ≠ r'.den) (hk : k ≤ 1000000) (hk' : k' ≤ 1000000) :
  Calls Tryz.prog 36 #[.agg #[.bool b, .slice A n c, .slice D m e], .agg #[.bool b', .slice A' n' c', .slice D' m' e']] w (RetV w (.bool false)) := by
 obtain ⟨e1, ha, hd, hk1, hk2⟩ := h
 obtain ⟨e1', ha', hd', hk1', hk2'⟩ := h'
 rw [← hnn] at ha'
 subst hbb
 have HE : (b == b) = true := by simp
 have HA := Lib.hid (And.intro ha ha')
 have HD := Lib.hid (And.intro hd hd')
 have HN := Lib.hid hne
 clear ha ha' hd hd' hne e1 e1'
 go_enter Tryz.func36, Tryz.ntmps36
 go_wp2_with fail
 (with_reducible refine (b_words _ A n c r.num ?_ A' n' c' ?_ ?_).mono ?_); (exact HA.out.1.keep (((Kp.refl _).alloc _).alloc _)); (exact HA.out.2.keep (((Kp.refl _).alloc _).alloc _)); (omega); rintro e w1 ⟨rfl, hb⟩
 have q1 : Below w.heap.size w w1 := (((Below.refl _ _).alloc (Nat.le_refl _) _).alloc (by simp) _).trans (hb.mono (by simp <;> omega))
 have x0 : Blk w1 w.heap.size 72 #[.bool b, .slice A n c, .slice D m e] := ((blkAt w _ _ rfl).alloc _).below hb (by simp <;> omega)
 have x1 : Blk w1 (w.heap.size + 1) 72 #[.bool b, .slice A' n' c', .slice D' m' e'] := (blkAt _ _ _ (by simp)).below hb (by simp)
 have c02 : w1.cell? ⟨w.heap.size, 2, none⟩ = some (.slice D m e) := x0.cell 2
 have c12 : w1.cell? ⟨w.heap.size + 1, 2, none⟩ = some (.slice D' m' e') := x1.cell 2
 clear hb
 go_wp2_with fail
 (with_reducible refine (b_words_ne _ D m e r.den ?_ D' m' e' r'.den ?_ ?_ ?_ ?_).mono ?_); (exact HD.out.1.belw q1); (exact HD.out.2.belw q1); (exact HN.out); (omega); (omega); rintro e w2 ⟨rfl, hb2⟩
 go_wp2_with fail
 go_ret
 exact ⟨rfl, q1.trans (hb2.mono q1.size)⟩
end Go.Proofs.YtoiijifnfdgfpaaGreatDoor

/- Walks: linkworkbase.Rat, Body and Linkage, of any two. -/
namespace Go.Proofs.YtoiijifnfdgfpaaGreatDoor
open Go Go.RowKit Bn
attribute [local go_sem ↓] Go.wp_at_zero Go.wp_at_succ
theorem b_rat_eq (w : World) (b : Bool) (A : Option Addr) (n c : Nat) (D : Option Addr) (m e : Nat) (b' : Bool) (A' : Option Addr) (n' c' : Nat) (D' : Option Addr) (m' e' : Nat) (r : RD) (k k' : Nat) (h : QD w b A n c D m e r k) (h' : QD w b' A' n' c' D' m' e' r k') (hk : k ≤ 1000000) :
  Calls Tryz.prog 36 #[.agg #[.bool b, .slice A n c, .slice D m e], .agg #[.bool b', .slice A' n' c', .slice D' m' e']] w (RetV w (.bool true)) := by
 obtain ⟨e1, ha, hd, hk1, hk2⟩ := h
 obtain ⟨e1', ha', hd', _, _⟩ := h'
 subst e1 e1'
 have HE : (r.neg == r.neg) = true := by simp
 have HA := Lib.hid (And.intro ha ha')
 have HD := Lib.hid (And.intro hd hd')
 clear ha ha' hd hd'
 go_enter Tryz.func36, Tryz.ntmps36
 go_wp2_with fail
 (with_reducible refine (b_words _ A n c r.num ?_ A' n' c' ?_ ?_).mono ?_); (exact HA.out.1.keep (((Kp.refl _).alloc _).alloc _)); (exact HA.out.2.keep (((Kp.refl _).alloc _).alloc _)); (omega); rintro e w1 ⟨rfl, hb⟩
 have q1 : Below w.heap.size w w1 := (((Below.refl _ _).alloc (Nat.le_refl _) _).alloc (by simp) _).trans (hb.mono (by simp <;> omega))
 have x0 : Blk w1 w.heap.size 72 #[.bool r.neg, .slice A n c, .slice D m e] := ((blkAt w _ _ rfl).alloc _).below hb (by simp <;> omega)
 have x1 : Blk w1 (w.heap.size + 1) 72 #[.bool r.neg, .slice A' n' c', .slice D' m' e'] := (blkAt _ _ _ (by simp)).below hb (by simp)
 have c02 : w1.cell? ⟨w.heap.size, 2, none⟩ = some (.slice D m e) := x0.cell 2
 have c12 : w1.cell? ⟨w.heap.size + 1, 2, none⟩ = some (.slice D' m' e') := x1.cell 2
 clear hb
 go_wp2_with fail
 (with_reducible refine (b_words _ D m e r.den ?_ D' m' e' ?_ ?_).mono ?_); (exact HD.out.1.belw q1); (exact HD.out.2.belw q1); (omega); rintro e w2 ⟨rfl, hb2⟩
 go_wp2_with fail
 go_ret
 exact ⟨rfl, q1.trans (hb2.mono q1.size)⟩
theorem b_rat_d (w : World) (b : Bool) (A : Option Addr) (n c : Nat) (D : Option Addr) (m e : Nat) (b' : Bool) (A' : Option Addr) (n' c' : Nat) (D' : Option Addr) (m' e' : Nat) (r r' : RD) (k k' : Nat) (h : QD w b A n c D m e r k) (h' : QD w b' A' n' c' D' m' e' r' k') (hk : k ≤ 1000000) (hk' : k' ≤ 1000000) (v : Bool) (hv : v = true ↔ r = r') :
    Calls Tryz.prog 36 #[.agg #[.bool b, .slice A n c, .slice D m e], .agg #[.bool b', .slice A' n' c', .slice D' m' e']] w (RetV w (.bool v)) := by
  by_cases e1 : r = r'
  · subst e1
    rw [hv.2 rfl]
    exact b_rat_eq w b A n c D m e b' A' n' c' D' m' e' r k k' h h' hk
  · have hvf : v = false := by cases v; rfl; exact absurd (hv.1 rfl) e1
    subst hvf
    by_cases eb : b = b'
    · by_cases en : r.num = r'.num
      · refine b_rat_ne3 w b A n c D m e r k h b' A' n' c' D' m' e' r' k' h' eb en (fun ed => e1 ?_) hk hk'
        have hn : r.neg = r'.neg := by rw [h.1, h'.1, eb]
        obtain ⟨a1, a2, a3⟩ := r
        obtain ⟨b1, b2, b3⟩ := r'
        simp only at hn en ed
        rw [hn, en, ed]
      · exact b_rat_ne2 w b A n c D m e r k h b' A' n' c' D' m' e' r' k' h' eb en hk hk'
    · exact b_rat_ne1 w b A n c D m e r k h b' A' n' c' D' m' e' r' k' h' eb hk hk'
def Cells7 (w : World) (g o : Nat) (s : Value) (b1 : Bool) (A1 : Option Addr) (n1 c1 : Nat) (D1 : Option Addr) (m1 e1 : Nat) (b2 : Bool) (A2 : Option Addr) (n2 c2 : Nat) (D2 : Option Addr) (m2 e2 : Nat) : Prop :=
  w.cell? ⟨g, o, none⟩ = some s ∧ w.cell? ⟨g, o + 1, none⟩ = some (.bool b1) ∧ w.cell? ⟨g, o + 2, none⟩ = some (.slice A1 n1 c1) ∧ w.cell? ⟨g, o + 3, none⟩ = some (.slice D1 m1 e1) ∧ w.cell? ⟨g, o + 4, none⟩ = some (.bool b2) ∧ w.cell? ⟨g, o + 5, none⟩ = some (.slice A2 n2 c2) ∧ w.cell? ⟨g, o + 6, none⟩ = some (.slice D2 m2 e2)
section
variable {w w' : World} {g o : Nat} {s : Value} {b1 b2 : Bool} {A1 D1 A2 D2 : Option Addr} {n1 c1 m1 e1 n2 c2 m2 e2 : Nat}
theorem cells7 (h0 : w.cell? ⟨g, o, none⟩ = some s) (h1 : w.cell? ⟨g, o + 1, none⟩ = some (.bool b1)) (h2 : w.cell? ⟨g, o + 1 + 1, none⟩ = some (.slice A1 n1 c1)) (h3 : w.cell? ⟨g, o + 1 + 2, none⟩ = some (.slice D1 m1 e1)) (h4 : w.cell? ⟨g, o + 4, none⟩ = some (.bool b2)) (h5 : w.cell? ⟨g, o + 4 + 1, none⟩ = some (.slice A2 n2 c2)) (h6 : w.cell? ⟨g, o + 4 + 2, none⟩ = some (.slice D2 m2 e2)) : Cells7 w g o s b1 A1 n1 c1 D1 m1 e1 b2 A2 n2 c2 D2 m2 e2 := ⟨h0, h1, h2, h3, h4, h5, h6⟩
theorem cells7_belw (h : Cells7 w g o s b1 A1 n1 c1 D1 m1 e1 b2 A2 n2 c2 D2 m2 e2) (hb : Below w.heap.size w w') :
    w'.cell? ⟨g, o, none⟩ = some s ∧ w'.cell? ⟨g, o + 1, none⟩ = some (.bool b1) ∧ w'.cell? ⟨g, o + 2, none⟩ = some (.slice A1 n1 c1) ∧ w'.cell? ⟨g, o + 3, none⟩ = some (.slice D1 m1 e1) ∧ w'.cell? ⟨g, o + 4, none⟩ = some (.bool b2) ∧ w'.cell? ⟨g, o + 5, none⟩ = some (.slice A2 n2 c2) ∧ w'.cell? ⟨g, o + 6, none⟩ = some (.slice D2 m2 e2) :=
  ⟨cell_belw h.1 hb, cell_belw h.2.1 hb, cell_belw h.2.2.1 hb, cell_belw h.2.2.2.1 hb, cell_belw h.2.2.2.2.1 hb, cell_belw h.2.2.2.2.2.1 hb, cell_belw h.2.2.2.2.2.2 hb⟩
end
theorem bool_of (p : Prop) : ∃ v : Bool, v = true ↔ p := by
  by_cases h : p
  · exact ⟨true, by simp [h]⟩
  · exact ⟨false, by simp [h]⟩
theorem gt_jt : Tryz.prog.eqGuardType Tryz.prog.depth 60 = false := by kernel_rfl
theorem gh_jt : Tryz.prog.stoodInHeld 60 = false := by kernel_rfl
theorem gt_dr : Tryz.prog.eqGuardType Tryz.prog.depth 58 = false := by kernel_rfl
theorem gh_dr : Tryz.prog.stoodInHeld 58 = false := by kernel_rfl
theorem take_next {α : Type} {l m : List α} {i : Nat} {a : α} (h : l.take i = m.take i) (h1 : l[i]? = some a) (h2 : m[i]? = some a) : l.take (i + 1) = m.take (i + 1) := by rw [List.take_add_one, List.take_add_one, h, h1, h2]
theorem b_body_d (w : World) (A : Option Addr) (n c : Nat) (a : BodyL) (h : SlS (MkAt 1000000) 7 w A n c a.pts) (A' : Option Addr) (n' c' : Nat) (b : BodyL) (h' : SlS (MkAt 1000000) 7 w A' n' c' b.pts) (hn : n ≤ 1000) (v : Bool) (hv : v = true ↔ a = b) :
    Calls Tryz.prog 29 #[.agg #[strV a.name, .slice A n c], .agg #[strV b.name, .slice A' n' c']] w (RetV w (.bool v)) := by
  have H := Lib.hid (And.intro h h')
  have HV := Lib.hid hv
  clear h h' hv
  by_cases en : a.name = b.name
  · by_cases el : n = n'
    · subst el
      have hs : (a.name == b.name) = true := beq_iff_eq.2 en
      have HN := Lib.hid en
      have hnc := H.out.1.2.1
      have hnc' := H.out.2.2.1
      have HLA := Lib.hid H.out.1.1
      have HLB := Lib.hid H.out.2.1
      clear en
      go_enter Tryz.func29, Tryz.ntmps29
      go_wp2_with fail
      go_loopw [5] (fun iv wr => ∃ i : Nat, iv = .int .i64 (i : Nat) ∧ i ≤ n ∧ Hid (a.pts.take i = b.pts.take i) ∧ Blk wr w.heap.size 56 #[strV a.name, .slice A n c] ∧ Blk wr (w.heap.size + 1) 56 #[strV b.name, .slice A' n c'] ∧ Below w.heap.size w wr) (fun iv _ => n - (intOf iv).toNat)
      case atStart => exact ⟨0, rfl, Nat.zero_le _, Lib.hid rfl, (blkAt w _ _ rfl).alloc _, blkAt _ _ _ (by simp), ((brefl w).alloc (Nat.le_refl _) _).alloc (by simp) _⟩
      case round =>
        obtain ⟨i, rfl, hi, HI, xa, xb, bwa⟩ := hrel
        rename World => wa
        have hla : w.heap.size < wa.heap.size := xa.lt
        have hlb : w.heap.size + 1 < wa.heap.size := xb.lt
        rcases Nat.lt_or_ge i n with hlt | hge
        · have hi1 : ((i : Int) < (n : Int)) = True := by simp; omega
          obtain ⟨g, o, x, e1, hg, _, hxi, hX⟩ := H.out.1.at_ hlt
          subst e1
          obtain ⟨g9, o9, y, e1, hg9, _, hyi, hY⟩ := H.out.2.at_ hlt
          subst e1
          have ca1 := xa.cell 1
          obtain ⟨d0, ⟨b1, A1, n1, c1, D1, m1, e1, d1, d2, d3, hQ1⟩, ⟨b2, A2, n2, c2, D2, m2, e2, d4, d5, d6, hQ2⟩, _⟩ := hX
          obtain ⟨f0, ⟨b3, A3, n3, c3, D3, m3, e3, f1, f2, f3, hQ3⟩, ⟨b4, A4, n4, c4, D4, m4, e4, f4, f5, f6, hQ4⟩, _⟩ := hY
          have HM1 := Lib.hid (cells7 d0 d1 d2 d3 d4 d5 d6)
          have HM2 := Lib.hid (cells7 f0 f1 f2 f3 f4 f5 f6)
          have HQ := Lib.hid (And.intro hQ1 (And.intro hQ2 (And.intro hQ3 hQ4)))
          have HXI := Lib.hid (And.intro hxi hyi)
          clear d0 d1 d2 d3 d4 d5 d6 f0 f1 f2 f3 f4 f5 f6 hQ1 hQ2 hQ3 hQ4 hxi hyi
          go_wp2_with fail
          clear ca1
          have hi2 : ((i : Int) < (n : Int)) := by omega
          refine wp_region_own (B := w.heap.size) (fr := fun xf => ⟨List.toArray (.agg #[strV a.name, .slice (some ⟨g, o, none⟩) n c] :: .agg #[strV b.name, .slice (some ⟨g9, o9, none⟩) n c'] :: .pointer (some ⟨w.heap.size, 0, none⟩) :: .pointer (some ⟨w.heap.size + 1, 0, none⟩) :: u4 :: .int .i64 (i : Nat) :: xf 10 :: xf 11 :: .pointer (some ⟨w.heap.size, 0, none⟩) :: strV a.name :: .pointer (some ⟨w.heap.size + 1, 0, none⟩) :: strV b.name :: .bool false :: .bool false :: .pointer (some ⟨w.heap.size, 1, none⟩) :: .slice (some ⟨g, o, none⟩) n c :: .int .i64 (n : Nat) :: .pointer (some ⟨w.heap.size + 1, 1, none⟩) :: .slice (some ⟨g9, o9, none⟩) n c' :: .int .i64 (n : Nat) :: .bool false :: .bool false :: .int .i64 (i : Nat) :: .pointer (some ⟨w.heap.size, 1, none⟩) :: .slice (some ⟨g, o, none⟩) n c :: .int .i64 (n : Nat) :: .bool true :: u27 :: u28 :: xf 0 :: xf 1 :: xf 2 :: xf 3 :: xf 4 :: xf 5 :: xf 6 :: xf 7 :: xf 8 :: xf 9 :: u39 :: u40 :: u41 :: u42 :: u43 :: u44 :: u45 :: u46 :: u47 :: u48 :: u49 :: u50 :: u51 :: u52 :: u53 :: u54 :: u55 :: u56 :: u57 :: u58 :: u59 :: []), []⟩) (R := fun ri => List.getD ((PEq (.pointer (some ⟨w.heap.size, 1, none⟩))) :: (PEq (.slice (some ⟨g, o, none⟩) n c)) :: (PEq (.int .i64 (i : Nat))) :: (PEq (.pointer (some ⟨g, o + i * 7, none⟩))) :: (PEq (.agg #[strV x.name, .bool b1, .slice A1 n1 c1, .slice D1 m1 e1, .bool b2, .slice A2 n2 c2, .slice D2 m2 e2])) :: (PEq (.pointer (some ⟨w.heap.size + 1, 1, none⟩))) :: (PEq (.slice (some ⟨g9, o9, none⟩) n c')) :: (PEq (.int .i64 (i : Nat))) :: (PEq (.pointer (some ⟨g9, o9 + i * 7, none⟩))) :: (PEq (.agg #[strV y.name, .bool b3, .slice A3 n3 c3, .slice D3 m3 e3, .bool b4, .slice A4 n4 c4, .slice D4 m4 e4])) :: PAny :: PAny :: PAny :: PAny :: []) ri (fun _ _ => True)) (es := [⟨10, 12, 85, #[.string ⟨#[]⟩, .bool false, .slice none 0 0, .slice none 0 0, .bool false, .slice none 0 0, .slice none 0 0], fun cz _ => cz = #[strV x.name, .bool b1, .slice A1 n1 c1, .slice D1 m1 e1, .bool b2, .slice A2 n2 c2, .slice D2 m2 e2]⟩, ⟨11, 13, 85, #[.string ⟨#[]⟩, .bool false, .slice none 0 0, .slice none 0 0, .bool false, .slice none 0 0, .slice none 0 0], fun cz _ => cz = #[strV y.name, .bool b3, .slice A3 n3 c3, .slice D3 m3 e3, .bool b4, .slice A4 n4 c4, .slice D4 m4 e4]⟩]) (ow := [⟨w.heap.size, 14, 0, 56, #[strV a.name, .slice (some ⟨g, o, none⟩) n c], fun _ _ => True⟩, ⟨w.heap.size + 1, 14, 0, 56, #[strV b.name, .slice (some ⟨g9, o9, none⟩) n c'], fun _ _ => True⟩]) (x0 := (upd (upd (upd (upd (upd (upd (upd (upd (upd (upd (upd (upd (fun _ => undef) 0 u29) 1 u30) 2 u31) 3 u32) 4 u33) 5 u34) 6 u35) 7 u36) 8 u37) 9 u38) 10 u6) 11 u7)) (by kernel_rfl)
            (each_of ⟨fun _ _ => rfl, fun _ _ => rfl, fun _ _ => rfl, fun _ _ => rfl, fun _ _ => rfl, fun _ _ => rfl, fun _ _ => rfl, fun _ _ => rfl, fun _ _ => rfl, fun _ _ => rfl, fun _ _ => rfl, fun _ _ => rfl, fun _ _ => rfl, fun _ _ => rfl, trivial⟩) (each_of (acyc_from _ 0 (by kernel_rfl))) (AllBw.get _ ⟨bEq _, bEq _, bEq _, bEq _, bEq _, bEq _, bEq _, bEq _, bEq _, bEq _, bAny, bAny, bAny, bAny, trivial⟩)
            (fmc ⟨fun _ _ _ h _ => h, fmc ⟨fun _ _ _ h _ => h, fun _ h => nomatch h⟩⟩) (fmc ⟨fun _ _ _ _ _ => True.intro, fmc ⟨fun _ _ _ _ _ => True.intro, fun _ h => nomatch h⟩⟩) (fmc ⟨⟨by simp, by simp⟩, fmc ⟨⟨by simp, by simp⟩, fun _ h => nomatch h⟩⟩) bwa.size
            (fmc ⟨⟨xa, Nat.le_refl _⟩, fmc ⟨⟨xb, by show w.heap.size ≤ w.heap.size + 1; omega⟩, fun _ h => nomatch h⟩⟩) (ownDistB (by simp <;> omega))
            (each_of ⟨?_, ?_, ?_, ?_, ?_, ?_, ?_, ?_, ?_, ?_, ?_, ?_, ?_, ?_, trivial⟩) ?_
          · exact .inl ⟨by simp, by simp, fun xf wq hk hbl hd K hK => by
              (try dsimp only)
              go_simp
              have hz := hK.out (.pointer (some ⟨w.heap.size, 1, none⟩)) _ rfl (brefl _)
              exact hz⟩
          · exact .inl ⟨by simp, by simp, fun xf wq hk hbl hd K hK => by
              have dq0 : xf 0 = .pointer (some ⟨w.heap.size, 1, none⟩) := hd ⟨0, .data⟩ (by simp) rfl
              have y : Blk wq w.heap.size 56 #[strV a.name, .slice (some ⟨g, o, none⟩) n c] := hbl _ (List.Mem.head _) (by simp [Region.binds])
              have hc1 : wq.cell? ⟨w.heap.size, 1, none⟩ = some (.slice (some ⟨g, o, none⟩) n c) := y.cell 1
              (try dsimp only); (try simp only [dq0])
              go_simp
              have hz := hK.out (.slice (some ⟨g, o, none⟩) n c) _ rfl (brefl _)
              simp only [dq0] at hz
              exact hz⟩
          · exact .inl ⟨by simp, by simp, fun xf wq hk hbl hd K hK => by
              (try dsimp only)
              go_simp
              have hz := hK.out (.int .i64 (i : Nat)) _ rfl (brefl _)
              exact hz⟩
          · exact .inl ⟨by simp, by simp, fun xf wq hk hbl hd K hK => by
              have dq1 : xf 1 = .slice (some ⟨g, o, none⟩) n c := hd ⟨1, .data⟩ (by simp) rfl
              have dq2 : xf 2 = .int .i64 (i : Nat) := hd ⟨2, .data⟩ (by simp) rfl
              (try dsimp only); (try simp only [dq1, dq2])
              go_simp
              have hz := hK.out (.pointer (some ⟨g, o + i * 7, none⟩)) _ rfl (brefl _)
              simp only [dq1, dq2] at hz
              exact hz⟩
          · exact .inl ⟨by simp, by simp, fun xf wq hk hbl hd K hK => by
              have dq3 : xf 3 = .pointer (some ⟨g, o + i * 7, none⟩) := hd ⟨3, .data⟩ (by simp) rfl
              obtain ⟨k0, k1, k2, k3, k4, k5, k6⟩ := cells7_belw HM1.out (bwa.trans hk)
              (try dsimp only); (try simp only [dq3])
              go_simp
              have hz := hK.out (.agg #[strV x.name, .bool b1, .slice A1 n1 c1, .slice D1 m1 e1, .bool b2, .slice A2 n2 c2, .slice D2 m2 e2]) _ rfl (brefl _)
              simp only [dq3] at hz
              exact hz⟩
          · exact .inl ⟨by simp, by simp, fun xf wq hk hbl hd K hK => by
              (try dsimp only)
              go_simp
              have hz := hK.out (.pointer (some ⟨w.heap.size + 1, 1, none⟩)) _ rfl (brefl _)
              exact hz⟩
          · exact .inl ⟨by simp, by simp, fun xf wq hk hbl hd K hK => by
              have dq5 : xf 5 = .pointer (some ⟨w.heap.size + 1, 1, none⟩) := hd ⟨5, .data⟩ (by simp) rfl
              have y : Blk wq (w.heap.size + 1) 56 #[strV b.name, .slice (some ⟨g9, o9, none⟩) n c'] := hbl _ (List.Mem.tail _ (List.Mem.head _)) (by simp [Region.binds])
              have hc1 : wq.cell? ⟨w.heap.size + 1, 1, none⟩ = some (.slice (some ⟨g9, o9, none⟩) n c') := y.cell 1
              (try dsimp only); (try simp only [dq5])
              go_simp
              have hz := hK.out (.slice (some ⟨g9, o9, none⟩) n c') _ rfl (brefl _)
              simp only [dq5] at hz
              exact hz⟩
          · exact .inl ⟨by simp, by simp, fun xf wq hk hbl hd K hK => by
              (try dsimp only)
              go_simp
              have hz := hK.out (.int .i64 (i : Nat)) _ rfl (brefl _)
              exact hz⟩
          · exact .inl ⟨by simp, by simp, fun xf wq hk hbl hd K hK => by
              have dq6 : xf 6 = .slice (some ⟨g9, o9, none⟩) n c' := hd ⟨6, .data⟩ (by simp) rfl
              have dq7 : xf 7 = .int .i64 (i : Nat) := hd ⟨7, .data⟩ (by simp) rfl
              (try dsimp only); (try simp only [dq6, dq7])
              go_simp
              have hz := hK.out (.pointer (some ⟨g9, o9 + i * 7, none⟩)) _ rfl (brefl _)
              simp only [dq6, dq7] at hz
              exact hz⟩
          · exact .inl ⟨by simp, by simp, fun xf wq hk hbl hd K hK => by
              have dq8 : xf 8 = .pointer (some ⟨g9, o9 + i * 7, none⟩) := hd ⟨8, .data⟩ (by simp) rfl
              obtain ⟨k0, k1, k2, k3, k4, k5, k6⟩ := cells7_belw HM2.out (bwa.trans hk)
              (try dsimp only); (try simp only [dq8])
              go_simp
              have hz := hK.out (.agg #[strV y.name, .bool b3, .slice A3 n3 c3, .slice D3 m3 e3, .bool b4, .slice A4 n4 c4, .slice D4 m4 e4]) _ rfl (brefl _)
              simp only [dq8] at hz
              exact hz⟩
          · exact .inr (.inl ⟨⟨10, 12, 85, #[.string ⟨#[]⟩, .bool false, .slice none 0 0, .slice none 0 0, .bool false, .slice none 0 0, .slice none 0 0], fun cz _ => cz = #[strV x.name, .bool b1, .slice A1 n1 c1, .slice D1 m1 e1, .bool b2, .slice A2 n2 c2, .slice D2 m2 e2]⟩, by simp, rfl, by simp, by simp, by simp, fun _ _ => True.intro, fun xf wq K hK => by
              (try dsimp only)
              go_simp
              exact hK.out⟩)
          · exact .inr (.inl ⟨⟨11, 13, 85, #[.string ⟨#[]⟩, .bool false, .slice none 0 0, .slice none 0 0, .bool false, .slice none 0 0, .slice none 0 0], fun cz _ => cz = #[strV y.name, .bool b3, .slice A3 n3 c3, .slice D3 m3 e3, .bool b4, .slice A4 n4 c4, .slice D4 m4 e4]⟩, by simp, rfl, by simp, by simp, by simp, fun _ _ => True.intro, fun xf wq K hK => by
              (try dsimp only)
              go_simp
              exact hK.out⟩)
          · exact .inr (.inr (.inl ⟨⟨10, 12, 85, #[.string ⟨#[]⟩, .bool false, .slice none 0 0, .slice none 0 0, .bool false, .slice none 0 0, .slice none 0 0], fun cz _ => cz = #[strV x.name, .bool b1, .slice A1 n1 c1, .slice D1 m1 e1, .bool b2, .slice A2 n2 c2, .slice D2 m2 e2]⟩, by simp, rfl, by simp, by simp, by simp, by simp, True.intro, fun _ _ => True.intro, ⟨⟨10, .data⟩, by simp, rfl, rfl⟩, fun xf wq g7 hx hblk hd => by
              have dq4 : xf 4 = .agg #[strV x.name, .bool b1, .slice A1 n1 c1, .slice D1 m1 e1, .bool b2, .slice A2 n2 c2, .slice D2 m2 e2] := hd ⟨4, .data⟩ (by simp) rfl
              dsimp only at hx hblk
              refine ⟨[strV x.name, .bool b1, .slice A1 n1 c1, .slice D1 m1 e1, .bool b2, .slice A2 n2 c2, .slice D2 m2 e2], fun w' hk => rfl, fun K hK => ?_⟩
              have hc0 : wq.cell? ⟨g7, 0, none⟩ = some (.string ⟨#[]⟩) := hblk.cell 0
              have hc1 : wq.cell? ⟨g7, 1, none⟩ = some (.bool false) := hblk.cell 1
              have hc2 : wq.cell? ⟨g7, 2, none⟩ = some (.slice none 0 0) := hblk.cell 2
              have hc3 : wq.cell? ⟨g7, 3, none⟩ = some (.slice none 0 0) := hblk.cell 3
              have hc4 : wq.cell? ⟨g7, 4, none⟩ = some (.bool false) := hblk.cell 4
              have hc5 : wq.cell? ⟨g7, 5, none⟩ = some (.slice none 0 0) := hblk.cell 5
              have hc6 : wq.cell? ⟨g7, 6, none⟩ = some (.slice none 0 0) := hblk.cell 6
              have hf0 : wq.frozen? ⟨g7, 0, none⟩ = false := hblk.frozen 0
              have hf1 : wq.frozen? ⟨g7, 1, none⟩ = false := hblk.frozen 1
              have hf2 : wq.frozen? ⟨g7, 2, none⟩ = false := hblk.frozen 2
              have hf3 : wq.frozen? ⟨g7, 3, none⟩ = false := hblk.frozen 3
              have hf4 : wq.frozen? ⟨g7, 4, none⟩ = false := hblk.frozen 4
              have hf5 : wq.frozen? ⟨g7, 5, none⟩ = false := hblk.frozen 5
              have hf6 : wq.frozen? ⟨g7, 6, none⟩ = false := hblk.frozen 6
              (try dsimp only)
              simp only [hx, dq4]
              go_simp
              have hz := hK.out undef
              simp only [hx, dq4] at hz
              exact hz⟩))
          · exact .inr (.inr (.inl ⟨⟨11, 13, 85, #[.string ⟨#[]⟩, .bool false, .slice none 0 0, .slice none 0 0, .bool false, .slice none 0 0, .slice none 0 0], fun cz _ => cz = #[strV y.name, .bool b3, .slice A3 n3 c3, .slice D3 m3 e3, .bool b4, .slice A4 n4 c4, .slice D4 m4 e4]⟩, by simp, rfl, by simp, by simp, by simp, by simp, True.intro, fun _ _ => True.intro, ⟨⟨11, .data⟩, by simp, rfl, rfl⟩, fun xf wq g7 hx hblk hd => by
              have dq9 : xf 9 = .agg #[strV y.name, .bool b3, .slice A3 n3 c3, .slice D3 m3 e3, .bool b4, .slice A4 n4 c4, .slice D4 m4 e4] := hd ⟨9, .data⟩ (by simp) rfl
              dsimp only at hx hblk
              refine ⟨[strV y.name, .bool b3, .slice A3 n3 c3, .slice D3 m3 e3, .bool b4, .slice A4 n4 c4, .slice D4 m4 e4], fun w' hk => rfl, fun K hK => ?_⟩
              have hc0 : wq.cell? ⟨g7, 0, none⟩ = some (.string ⟨#[]⟩) := hblk.cell 0
              have hc1 : wq.cell? ⟨g7, 1, none⟩ = some (.bool false) := hblk.cell 1
              have hc2 : wq.cell? ⟨g7, 2, none⟩ = some (.slice none 0 0) := hblk.cell 2
              have hc3 : wq.cell? ⟨g7, 3, none⟩ = some (.slice none 0 0) := hblk.cell 3
              have hc4 : wq.cell? ⟨g7, 4, none⟩ = some (.bool false) := hblk.cell 4
              have hc5 : wq.cell? ⟨g7, 5, none⟩ = some (.slice none 0 0) := hblk.cell 5
              have hc6 : wq.cell? ⟨g7, 6, none⟩ = some (.slice none 0 0) := hblk.cell 6
              have hf0 : wq.frozen? ⟨g7, 0, none⟩ = false := hblk.frozen 0
              have hf1 : wq.frozen? ⟨g7, 1, none⟩ = false := hblk.frozen 1
              have hf2 : wq.frozen? ⟨g7, 2, none⟩ = false := hblk.frozen 2
              have hf3 : wq.frozen? ⟨g7, 3, none⟩ = false := hblk.frozen 3
              have hf4 : wq.frozen? ⟨g7, 4, none⟩ = false := hblk.frozen 4
              have hf5 : wq.frozen? ⟨g7, 5, none⟩ = false := hblk.frozen 5
              have hf6 : wq.frozen? ⟨g7, 6, none⟩ = false := hblk.frozen 6
              (try dsimp only)
              simp only [hx, dq9]
              go_simp
              have hz := hK.out undef
              simp only [hx, dq9] at hz
              exact hz⟩))
          intro y7 w7 kq hbl lw how _ hfl hds
          obtain ⟨_, za, ez, _⟩ := how _ (List.Mem.head _)
          obtain rfl := ez (by simp)
          obtain ⟨_, zb, ez, _⟩ := how _ (List.Mem.tail _ (List.Mem.head _))
          obtain rfl := ez (by simp)
          obtain ⟨g6, _, eg6, Gg6, xg6, rfl⟩ := hfl _ (List.Mem.head _)
          obtain ⟨g7, _, eg7, Gg7, xg7, rfl⟩ := hfl _ (List.Mem.tail _ (List.Mem.head _))
          dsimp only at za zb eg6 Gg6 xg6 eg7 Gg7 xg7
          clear how hfl hds ez
          have bw7 := bwa.trans kq
          have lg6 : g6 < w7.heap.size := xg6.lt
          have lg7 : g7 < w7.heap.size := xg7.lt
          (try dsimp only)
          simp only [eg6, eg7]
          clear eg6 eg7
          obtain ⟨k0, k1, k2, k3, k4, k5, k6⟩ := xg6.c7
          obtain ⟨l0, l1, l2, l3, l4, l5, l6⟩ := xg7.c7
          by_cases hnm : x.name = y.name
          · have hnb : (x.name == y.name) = true := beq_iff_eq.2 hnm
            have HNM := Lib.hid hnm
            clear hnm
            obtain ⟨v1, hv1⟩ := bool_of (x.x = y.x)
            obtain ⟨v2, hv2⟩ := bool_of (x.y = y.y)
            have HV1 := Lib.hid hv1
            have HV2 := Lib.hid hv2
            clear hv1 hv2
            go_wp2_with fail
            (with_reducible refine (b_rat_d w7 b1 A1 n1 c1 D1 m1 e1 b3 A3 n3 c3 D3 m3 e3 x.x y.x 1000000 1000000 (HQ.out.1.belw bw7) (HQ.out.2.2.1.belw bw7) (by decide) (by decide) v1 HV1.out).mono ?_); rintro e' w8 ⟨rfl, hb8⟩
            have bw8 := bw7.trans (hb8.mono bw7.size)
            have za8 := za.below hb8 za.lt
            have zb8 := zb.below hb8 zb.lt
            have y6 := xg6.below hb8 xg6.lt
            have y7' := xg7.below hb8 xg7.lt
            clear k0 k1 k2 k3 k4 k5 k6 l0 l1 l2 l3 l4 l5 l6
            cases v1
            · have hvf : v = false := by
                cases v
                · rfl
                · exfalso
                  have := HV.out.1 rfl
                  subst this
                  have h9 := HXI.out.1.symm.trans HXI.out.2
                  injection h9 with h9
                  subst h9
                  exact absurd (HV1.out.2 rfl) (by decide)
              subst hvf
              go_wp2_with fail
              go_ret
              exact ⟨rfl, bw8⟩
            · have lg6 : g6 < w8.heap.size := y6.lt
              have lg7 : g7 < w8.heap.size := y7'.lt
              obtain ⟨k0, k1, k2, k3, k4, k5, k6⟩ := y6.c7
              obtain ⟨l0, l1, l2, l3, l4, l5, l6⟩ := y7'.c7
              go_wp2_with fail
              (with_reducible refine (b_rat_d w8 b2 A2 n2 c2 D2 m2 e2 b4 A4 n4 c4 D4 m4 e4 x.y y.y 1000000 1000000 (HQ.out.2.1.belw bw8) (HQ.out.2.2.2.belw bw8) (by decide) (by decide) v2 HV2.out).mono ?_); rintro e' w9 ⟨rfl, hb9⟩
              have bw9 := bw8.trans (hb9.mono bw8.size)
              have za9 := za8.below hb9 za8.lt
              have zb9 := zb8.below hb9 zb8.lt
              clear k0 k1 k2 k3 k4 k5 k6 l0 l1 l2 l3 l4 l5 l6
              cases v2
              · have hvf : v = false := by
                  cases v
                  · rfl
                  · exfalso
                    have := HV.out.1 rfl
                    subst this
                    have h9 := HXI.out.1.symm.trans HXI.out.2
                    injection h9 with h9
                    subst h9
                    exact absurd (HV2.out.2 rfl) (by decide)
                subst hvf
                go_wp2_with fail
                go_ret
                exact ⟨rfl, bw9⟩
              · have hxy : x = y := by
                  have e1 := HNM.out
                  have e2 := HV1.out.1 (by simp)
                  have e3 := HV2.out.1 (by simp)
                  obtain ⟨x1, x2, x3⟩ := x
                  obtain ⟨y1, y2, y3⟩ := y
                  simp only at e1 e2 e3
                  rw [e1, e2, e3]
                have HI2 : Hid (a.pts.take (i + 1) = b.pts.take (i + 1)) := Lib.hid (take_next HI.out HXI.out.1 (by rw [hxy]; exact HXI.out.2))
                clear hxy
                go_wp2_with fail
                go_roundw
                case rel => exact ⟨i + 1, by go_num, by omega, HI2, za9, zb9, bw9⟩
                case measure => simp [intOf]; omega
          · have hnb : (x.name == y.name) = false := beq_eq_false_iff_ne.2 hnm
            have hvf : v = false := by
              cases v
              · rfl
              · exfalso
                have := HV.out.1 rfl
                subst this
                have h9 := HXI.out.1.symm.trans HXI.out.2
                injection h9 with h9
                exact hnm (by rw [h9])
            subst hvf
            clear hnm
            go_wp2_with fail
            go_ret
            exact ⟨rfl, bw7⟩
        · have hi1 : ((i : Int) < (n : Int)) = False := by simp; omega
          have e2 : a.pts = b.pts := by
            have := HI.out
            rwa [List.take_of_length_le (by rw [HLA.out]; exact hge), List.take_of_length_le (by rw [HLB.out]; exact hge)] at this
          have hvt : v = true := HV.out.2 (by
            have e1 := HN.out
            obtain ⟨a1, a2⟩ := a
            obtain ⟨b1, b2⟩ := b
            simp only at e1 e2
            rw [e1, e2])
          subst hvt
          have ca1 := xa.cell 1
          clear e2
          go_wp2_with fail
          go_ret
          exact ⟨rfl, bwa⟩
    · have el2 : ((n : Int) == (n' : Int)) = false := by simp; omega
      have el3 : ¬ (n : Int) = (n' : Int) := by omega
      have hvf : v = false := by
        cases v
        · rfl
        · exfalso
          have := HV.out.1 rfl
          subst this
          exact el (H.out.1.1.symm.trans H.out.2.1)
      subst hvf
      have hs : (a.name == b.name) = true := beq_iff_eq.2 en
      clear en
      go_enter Tryz.func29, Tryz.ntmps29
      go_wp2_with fail
      go_ret
      exact ⟨rfl, ((brefl w).alloc (Nat.le_refl _) _).alloc (by simp) _⟩
  · have hs : (a.name == b.name) = false := beq_eq_false_iff_ne.2 en
    have hvf : v = false := by
      cases v
      · rfl
      · exact absurd (by rw [HV.out.1 rfl]) en
    subst hvf
    clear en
    go_enter Tryz.func29, Tryz.ntmps29
    go_wp2_with fail
    go_ret
    exact ⟨rfl, ((brefl w).alloc (Nat.le_refl _) _).alloc (by simp) _⟩
end Go.Proofs.YtoiijifnfdgfpaaGreatDoor

/- Walks: linkworkbase.Linkage, of any two. -/
namespace Go.Proofs.YtoiijifnfdgfpaaGreatDoor
open Go Go.RowKit Bn
attribute [local go_sem ↓] Go.wp_at_zero Go.wp_at_succ
theorem b_link_d (w : World) (A : Option Addr) (n c : Nat) (B : Option Addr) (p d : Nat) (C : Option Addr) (q e : Nat) (L : LinkL) (h : LkS 1000000 w A n c B p d C q e L) (A' : Option Addr) (n' c' : Nat) (B' : Option Addr) (p' d' : Nat) (C' : Option Addr) (q' e' : Nat) (M : LinkL) (h' : LkS 1000000 w A' n' c' B' p' d' C' q' e' M) (hps : ∀ b ∈ L.bodies, b.pts.length ≤ 1000) (hn : n ≤ 1000) (hp : p ≤ 1000) (hq : q ≤ 1000) (v : Bool) (hv : v = true ↔ L = M) :
    Calls Tryz.prog 20 #[.agg #[strV L.name, .slice A n c, .slice B p d, .slice C q e], .agg #[strV M.name, .slice A' n' c', .slice B' p' d', .slice C' q' e']] w (RetV w (.bool v)) := by
  have H := Lib.hid h
  have H' := Lib.hid h'
  have HV := Lib.hid hv
  have HPS := Lib.hid hps
  have HLen := Lib.hid (And.intro (And.intro h.bodies.1 h'.bodies.1) (And.intro (And.intro h.joints.1 h'.joints.1) (And.intro h.drivers.1 h'.drivers.1)))
  have hnc := h.bodies.2.1
  have hnc' := h'.bodies.2.1
  have hpd := h.joints.2.1
  have hpd' := h'.joints.2.1
  have hqe := h.drivers.2.1
  have hqe' := h'.drivers.2.1
  clear h h' hv hps
  have hno : ∀ (P : Prop), P → (L = M → ¬ P) → v = false := by
    intro P hP hne
    cases v
    · rfl
    · exact absurd hP (hne (HV.out.1 rfl))
  have HNO := Lib.hid hno
  clear hno
  have q00 : Below w.heap.size w ((w.alloc (.cells #[strV L.name, .slice A n c, .slice B p d, .slice C q e] 36)).alloc (.cells #[strV M.name, .slice A' n' c', .slice B' p' d', .slice C' q' e'] 36)) := ((brefl w).alloc (Nat.le_refl _) _).alloc (by simp) _
  by_cases en : L.name = M.name
  rotate_left
  · have hs : (L.name == M.name) = false := beq_eq_false_iff_ne.2 en
    have hvf := HNO.out _ en (fun h => by rw [h]; simp)
    subst hvf
    clear en
    go_enter Tryz.func20, Tryz.ntmps20
    go_wp2_with fail
    go_ret
    exact ⟨rfl, q00⟩
  have hs : (L.name == M.name) = true := beq_iff_eq.2 en
  have HN := Lib.hid en
  clear en
  by_cases e1 : n = n'
  rotate_left
  · have f1 : ((n : Int) == (n' : Int)) = false := by simp; omega
    have f2 : ¬ (n : Int) = (n' : Int) := by omega
    have hvf := HNO.out _ e1 (fun h => by rw [← HLen.out.1.1, ← HLen.out.1.2, h]; simp)
    subst hvf
    clear e1
    go_enter Tryz.func20, Tryz.ntmps20
    go_wp2_with fail
    go_ret
    exact ⟨rfl, q00⟩
  subst e1
  by_cases e2 : p = p'
  rotate_left
  · have f1 : ((p : Int) == (p' : Int)) = false := by simp; omega
    have f2 : ¬ (p : Int) = (p' : Int) := by omega
    have hvf := HNO.out _ e2 (fun h => by rw [← HLen.out.2.1.1, ← HLen.out.2.1.2, h]; simp)
    subst hvf
    clear e2
    go_enter Tryz.func20, Tryz.ntmps20
    go_wp2_with fail
    go_ret
    exact ⟨rfl, q00⟩
  subst e2
  by_cases e3 : q = q'
  rotate_left
  · have f1 : ((q : Int) == (q' : Int)) = false := by simp; omega
    have f2 : ¬ (q : Int) = (q' : Int) := by omega
    have hvf := HNO.out _ e3 (fun h => by rw [← HLen.out.2.2.1, ← HLen.out.2.2.2, h]; simp)
    subst hvf
    clear e3
    go_enter Tryz.func20, Tryz.ntmps20
    go_wp2_with fail
    go_ret
    exact ⟨rfl, q00⟩
  subst e3
  go_enter Tryz.func20, Tryz.ntmps20
  go_wp2_with fail
  go_loopw [5] (fun iv wr => ∃ i : Nat, iv = .int .i64 (i : Nat) ∧ i ≤ n ∧ Hid (L.bodies.take i = M.bodies.take i) ∧ Blk wr w.heap.size 36 #[strV L.name, .slice A n c, .slice B p d, .slice C q e] ∧ Blk wr (w.heap.size + 1) 36 #[strV M.name, .slice A' n c', .slice B' p d', .slice C' q e'] ∧ Below w.heap.size w wr) (fun iv _ => n - (intOf iv).toNat)
  case atStart => exact ⟨0, rfl, Nat.zero_le _, Lib.hid rfl, (blkAt w _ _ rfl).alloc _, blkAt _ _ _ (by simp), q00⟩
  case round =>
    clear q00
    obtain ⟨i, rfl, hi, HI, xa, xb, bwa⟩ := hrel
    rename World => wa
    have hla : w.heap.size < wa.heap.size := xa.lt
    have hlb : w.heap.size + 1 < wa.heap.size := xb.lt
    rcases Nat.lt_or_ge i n with hlt | hge
    · have hi1 : ((i : Int) < (n : Int)) = True := by simp; omega
      obtain ⟨g, o, x, e1, hg, _, hxi, hX⟩ := (H.out.bodies.bd bwa).at_ hlt
      subst e1
      obtain ⟨g9, o9, y, e1, hg9, _, hyi, hY⟩ := (H'.out.bodies.bd bwa).at_ hlt
      subst e1
      obtain ⟨A1, n1, c1, d0, d1, hM1, _⟩ := hX
      obtain ⟨A2, n2, c2, f0, f1, hM2, _⟩ := hY
      have hn1 : n1 ≤ 1000 := by rw [← hM1.1]; exact HPS.out x (List.mem_of_getElem? hxi)
      have HM := Lib.hid (And.intro hM1 hM2)
      have HXI := Lib.hid (And.intro hxi hyi)
      obtain ⟨v1, hv1⟩ := bool_of (x = y)
      have HV1 := Lib.hid hv1
      have ca1 := xa.cell 1
      have cb1 := xb.cell 1
      have hi2 : ((i : Int) < (n : Int)) := by omega
      clear hM1 hM2 hxi hyi hv1
      go_wp2_with fail
      go_region_held3 (fun w' => Sees wa.heap.size wa w') (first | with_reducible exact Sees.of (Nat.le_refl _) (by assumption) | with_reducible exact Sees.of (Nat.le_refl _) (brefl _).drew | exact Sees.of (Nat.le_refl _) (below_drewN (brefl _) 1) | exact Sees.of (Nat.le_refl _) (below_drewN (by assumption) _))
        (first
          | (go_at_call 29; (with_reducible refine (b_body_d _ A1 n1 c1 x ?_ A2 n2 c2 y ?_ hn1 v1 HV1.out).mono ?_); (exact HM.out.1.mk_ (by first | exact (brefl wa).drew | exact below_drewN (brefl wa) _)); (exact HM.out.2.mk_ (by first | exact (brefl wa).drew | exact below_drewN (brefl wa) _)); rintro e' w8 ⟨rfl, hb8⟩; have q8 : Below wa.heap.size wa w8 := (by first | exact bnext (brefl wa).drew hb8 | exact bnext (below_drewN (brefl wa) _) hb8)))
      have bw8 := bwa.trans (q8.mono bwa.size)
      have xa8 := xa.below q8 xa.lt
      have xb8 := xb.below q8 xb.lt
      clear ca1 cb1 d0 d1 f0 f1
      cases v1
      · have hvf := HNO.out (x ≠ y) (fun h => absurd (HV1.out.2 h) (by decide)) (fun h => by
          subst h
          have h9 := HXI.out.1.symm.trans HXI.out.2
          injection h9 with h9
          exact fun h => h h9)
        subst hvf
        go_wp2_with fail
        go_ret
        exact ⟨rfl, bw8⟩
      · have hxy : x = y := HV1.out.1 (by simp)
        have HI2 : Hid (L.bodies.take (i + 1) = M.bodies.take (i + 1)) := Lib.hid (take_next HI.out HXI.out.1 (by rw [hxy]; exact HXI.out.2))
        clear hxy
        go_wp2_with fail
        go_roundw
        case rel => exact ⟨i + 1, by go_num, by omega, HI2, xa8, xb8, bw8⟩
        case measure => simp [intOf]; omega
    · have hi1 : ((i : Int) < (n : Int)) = False := by simp; omega
      have e2 : L.bodies = M.bodies := by
        have := HI.out
        rwa [List.take_of_length_le (by rw [HLen.out.1.1]; exact hge), List.take_of_length_le (by rw [HLen.out.1.2]; exact hge)] at this
      have HB := Lib.hid e2
      have ca1 := xa.cell 1
      have ca2 := xa.cell 2
      clear e2
      go_wp2_with fail
      clear ca1 ca2
      go_loopw [6] (fun iv wr => ∃ i2 : Nat, iv = .int .i64 (i2 : Nat) ∧ i2 ≤ p ∧ Hid (L.joints.take i2 = M.joints.take i2) ∧ Blk wr w.heap.size 36 #[strV L.name, .slice A n c, .slice B p d, .slice C q e] ∧ Blk wr (w.heap.size + 1) 36 #[strV M.name, .slice A' n c', .slice B' p d', .slice C' q e'] ∧ Below w.heap.size w wr) (fun iv _ => p - (intOf iv).toNat)
      case atStart => exact ⟨0, rfl, Nat.zero_le _, Lib.hid rfl, xa, xb, bwa⟩
      case round =>
        clear xa xb bwa
        obtain ⟨i2, rfl, hii2, HI, xa, xb, bwa⟩ := hrel
        rename World => wi2
        have hla : w.heap.size < wi2.heap.size := xa.lt
        have hlb : w.heap.size + 1 < wi2.heap.size := xb.lt
        rcases Nat.lt_or_ge i2 p with hlt | hgei2
        · have hi1 : ((i2 : Int) < (p : Int)) = True := by simp; omega
          have hi3 : ((i2 : Int) < (p : Int)) := by omega
          obtain ⟨g, o, x, e1, hg, _, hxi, hX⟩ := (H.out.joints.jt bwa).at_ hlt
          subst e1
          obtain ⟨g9, o9, y, e1, hg9, _, hyi, hY⟩ := (H'.out.joints.jt bwa).at_ hlt
          subst e1
          have HXI := Lib.hid (And.intro hxi hyi)
          obtain ⟨d0, d1, d2, d3, d4, d5, d6, _⟩ := hX
          obtain ⟨f0, f1, f2, f3, f4, f5, f6, _⟩ := hY
          have ca1 := xa.cell 2
          have cb1 := xb.cell 2
          have gt1 := gt_jt
          have gt2 := gh_jt
          clear hxi hyi
          by_cases k0 : x.name = y.name
          rotate_left
          · have h0 : (x.name == y.name) = false := beq_eq_false_iff_ne.2 k0
            have t0 : ((⟨x.name.toArray⟩ : ByteArray).toList == (⟨y.name.toArray⟩ : ByteArray).toList) = false := by rw [ByteArray.toList_eq, ByteArray.toList_eq]; simpa using k0
            have hvf := HNO.out _ k0 (fun h => by
              subst h
              have h9 := HXI.out.1.symm.trans HXI.out.2
              injection h9 with h9
              rw [h9]; simp)
            subst hvf
            clear k0
            go_wp2_with fail
            go_quiet (fail)
            go_wp2_with fail
            go_ret
            exact ⟨rfl, by first | exact bwa | exact below_drewN bwa _⟩
          have h0 : (x.name == y.name) = true := beq_iff_eq.2 k0
          have t0 : ((⟨x.name.toArray⟩ : ByteArray).toList == (⟨y.name.toArray⟩ : ByteArray).toList) = true := by rw [ByteArray.toList_eq, ByteArray.toList_eq]; simpa using k0
          have K0 := Lib.hid k0
          clear k0
          by_cases k1 : x.kind = y.kind
          rotate_left
          · have h1 : (x.kind == y.kind) = false := beq_eq_false_iff_ne.2 k1
            have hvf := HNO.out _ k1 (fun h => by
              subst h
              have h9 := HXI.out.1.symm.trans HXI.out.2
              injection h9 with h9
              rw [h9]; simp)
            subst hvf
            clear k1
            go_wp2_with fail
            go_quiet (fail)
            go_wp2_with fail
            go_ret
            exact ⟨rfl, by first | exact bwa | exact below_drewN bwa _⟩
          have h1 : (x.kind == y.kind) = true := beq_iff_eq.2 k1
          have K1 := Lib.hid k1
          clear k1
          by_cases k2 : x.a = y.a
          rotate_left
          · have h2 : (x.a == y.a) = false := beq_eq_false_iff_ne.2 k2
            have hvf := HNO.out _ k2 (fun h => by
              subst h
              have h9 := HXI.out.1.symm.trans HXI.out.2
              injection h9 with h9
              rw [h9]; simp)
            subst hvf
            clear k2
            go_wp2_with fail
            go_quiet (fail)
            go_wp2_with fail
            go_ret
            exact ⟨rfl, by first | exact bwa | exact below_drewN bwa _⟩
          have h2 : (x.a == y.a) = true := beq_iff_eq.2 k2
          have K2 := Lib.hid k2
          clear k2
          by_cases k3 : x.point = y.point
          rotate_left
          · have h3 : (x.point == y.point) = false := beq_eq_false_iff_ne.2 k3
            have hvf := HNO.out _ k3 (fun h => by
              subst h
              have h9 := HXI.out.1.symm.trans HXI.out.2
              injection h9 with h9
              rw [h9]; simp)
            subst hvf
            clear k3
            go_wp2_with fail
            go_quiet (fail)
            go_wp2_with fail
            go_ret
            exact ⟨rfl, by first | exact bwa | exact below_drewN bwa _⟩
          have h3 : (x.point == y.point) = true := beq_iff_eq.2 k3
          have K3 := Lib.hid k3
          clear k3
          by_cases k4 : x.b = y.b
          rotate_left
          · have h4 : (x.b == y.b) = false := beq_eq_false_iff_ne.2 k4
            have hvf := HNO.out _ k4 (fun h => by
              subst h
              have h9 := HXI.out.1.symm.trans HXI.out.2
              injection h9 with h9
              rw [h9]; simp)
            subst hvf
            clear k4
            go_wp2_with fail
            go_quiet (fail)
            go_wp2_with fail
            go_ret
            exact ⟨rfl, by first | exact bwa | exact below_drewN bwa _⟩
          have h4 : (x.b == y.b) = true := beq_iff_eq.2 k4
          have K4 := Lib.hid k4
          clear k4
          by_cases k5 : x.on = y.on
          rotate_left
          · have h5 : (x.on == y.on) = false := beq_eq_false_iff_ne.2 k5
            have hvf := HNO.out _ k5 (fun h => by
              subst h
              have h9 := HXI.out.1.symm.trans HXI.out.2
              injection h9 with h9
              rw [h9]; simp)
            subst hvf
            clear k5
            go_wp2_with fail
            go_quiet (fail)
            go_wp2_with fail
            go_ret
            exact ⟨rfl, by first | exact bwa | exact below_drewN bwa _⟩
          have h5 : (x.on == y.on) = true := beq_iff_eq.2 k5
          have K5 := Lib.hid k5
          clear k5
          by_cases k6 : x.to_ = y.to_
          rotate_left
          · have h6 : (x.to_ == y.to_) = false := beq_eq_false_iff_ne.2 k6
            have hvf := HNO.out _ k6 (fun h => by
              subst h
              have h9 := HXI.out.1.symm.trans HXI.out.2
              injection h9 with h9
              rw [h9]; simp)
            subst hvf
            clear k6
            go_wp2_with fail
            go_quiet (fail)
            go_wp2_with fail
            go_ret
            exact ⟨rfl, by first | exact bwa | exact below_drewN bwa _⟩
          have h6 : (x.to_ == y.to_) = true := beq_iff_eq.2 k6
          have K6 := Lib.hid k6
          clear k6
          have hxy : x = y := by
            have q0 := K0.out
            have q1 := K1.out
            have q2 := K2.out
            have q3 := K3.out
            have q4 := K4.out
            have q5 := K5.out
            have q6 := K6.out
            obtain ⟨x0, x1, x2, x3, x4, x5, x6⟩ := x
            obtain ⟨y0, y1, y2, y3, y4, y5, y6⟩ := y
            simp only at q0 q1 q2 q3 q4 q5 q6
            rw [q0, q1, q2, q3, q4, q5, q6]
          have HI2 : Hid (L.joints.take (i2 + 1) = M.joints.take (i2 + 1)) := Lib.hid (take_next HI.out HXI.out.1 (by rw [hxy]; exact HXI.out.2))
          clear hxy
          go_wp2_with fail
          go_quiet (fail)
          go_wp2_with fail
          go_roundw
          case rel => first | exact ⟨i2 + 1, by go_num, by omega, HI2, xa, xb, bwa⟩ | exact ⟨i2 + 1, by go_num, by omega, HI2, xa.drewN _, xb.drewN _, below_drewN bwa _⟩
          case measure => simp [intOf]; omega
        · have hi1 : ((i2 : Int) < (p : Int)) = False := by simp; omega
          have e2 : L.joints = M.joints := by
            have := HI.out
            rwa [List.take_of_length_le (by rw [HLen.out.2.1.1]; exact hgei2), List.take_of_length_le (by rw [HLen.out.2.1.2]; exact hgei2)] at this
          have Hjt := Lib.hid e2
          have ca1 := xa.cell 2
          clear e2
          go_wp2_with fail
          clear ca1
          go_loopw [7] (fun iv wr => ∃ i3 : Nat, iv = .int .i64 (i3 : Nat) ∧ i3 ≤ q ∧ Hid (L.drivers.take i3 = M.drivers.take i3) ∧ Blk wr w.heap.size 36 #[strV L.name, .slice A n c, .slice B p d, .slice C q e] ∧ Blk wr (w.heap.size + 1) 36 #[strV M.name, .slice A' n c', .slice B' p d', .slice C' q e'] ∧ Below w.heap.size w wr) (fun iv _ => q - (intOf iv).toNat)
          case atStart => exact ⟨0, rfl, Nat.zero_le _, Lib.hid rfl, xa, xb, bwa⟩
          case round =>
            clear xa xb bwa
            obtain ⟨i3, rfl, hii3, HI, xa, xb, bwa⟩ := hrel
            rename World => wi3
            have hla : w.heap.size < wi3.heap.size := xa.lt
            have hlb : w.heap.size + 1 < wi3.heap.size := xb.lt
            rcases Nat.lt_or_ge i3 q with hlt | hgei3
            · have hi1 : ((i3 : Int) < (q : Int)) = True := by simp; omega
              have hi3 : ((i3 : Int) < (q : Int)) := by omega
              obtain ⟨g, o, x, e1, hg, _, hxi, hX⟩ := (H.out.drivers.dr bwa).at_ hlt
              subst e1
              obtain ⟨g9, o9, y, e1, hg9, _, hyi, hY⟩ := (H'.out.drivers.dr bwa).at_ hlt
              subst e1
              have HXI := Lib.hid (And.intro hxi hyi)
              obtain ⟨d0, d1, _⟩ := hX
              obtain ⟨f0, f1, _⟩ := hY
              have ca1 := xa.cell 3
              have cb1 := xb.cell 3
              have gt1 := gt_dr
              have gt2 := gh_dr
              clear hxi hyi
              by_cases k0 : x.name = y.name
              rotate_left
              · have h0 : (x.name == y.name) = false := beq_eq_false_iff_ne.2 k0
                have t0 : ((⟨x.name.toArray⟩ : ByteArray).toList == (⟨y.name.toArray⟩ : ByteArray).toList) = false := by rw [ByteArray.toList_eq, ByteArray.toList_eq]; simpa using k0
                have hvf := HNO.out _ k0 (fun h => by
                  subst h
                  have h9 := HXI.out.1.symm.trans HXI.out.2
                  injection h9 with h9
                  rw [h9]; simp)
                subst hvf
                clear k0
                go_wp2_with fail
                go_quiet (fail)
                go_wp2_with fail
                go_ret
                exact ⟨rfl, by first | exact bwa | exact below_drewN bwa _⟩
              have h0 : (x.name == y.name) = true := beq_iff_eq.2 k0
              have t0 : ((⟨x.name.toArray⟩ : ByteArray).toList == (⟨y.name.toArray⟩ : ByteArray).toList) = true := by rw [ByteArray.toList_eq, ByteArray.toList_eq]; simpa using k0
              have K0 := Lib.hid k0
              clear k0
              by_cases k1 : x.body = y.body
              rotate_left
              · have h1 : (x.body == y.body) = false := beq_eq_false_iff_ne.2 k1
                have hvf := HNO.out _ k1 (fun h => by
                  subst h
                  have h9 := HXI.out.1.symm.trans HXI.out.2
                  injection h9 with h9
                  rw [h9]; simp)
                subst hvf
                clear k1
                go_wp2_with fail
                go_quiet (fail)
                go_wp2_with fail
                go_ret
                exact ⟨rfl, by first | exact bwa | exact below_drewN bwa _⟩
              have h1 : (x.body == y.body) = true := beq_iff_eq.2 k1
              have K1 := Lib.hid k1
              clear k1
              have hxy : x = y := by
                have q0 := K0.out
                have q1 := K1.out
                obtain ⟨x0, x1⟩ := x
                obtain ⟨y0, y1⟩ := y
                simp only at q0 q1
                rw [q0, q1]
              have HI2 : Hid (L.drivers.take (i3 + 1) = M.drivers.take (i3 + 1)) := Lib.hid (take_next HI.out HXI.out.1 (by rw [hxy]; exact HXI.out.2))
              clear hxy
              go_wp2_with fail
              go_quiet (fail)
              go_wp2_with fail
              go_roundw
              case rel => first | exact ⟨i3 + 1, by go_num, by omega, HI2, xa, xb, bwa⟩ | exact ⟨i3 + 1, by go_num, by omega, HI2, xa.drewN _, xb.drewN _, below_drewN bwa _⟩
              case measure => simp [intOf]; omega
            · have hi1 : ((i3 : Int) < (q : Int)) = False := by simp; omega
              have e2 : L.drivers = M.drivers := by
                have := HI.out
                rwa [List.take_of_length_le (by rw [HLen.out.2.2.1]; exact hgei3), List.take_of_length_le (by rw [HLen.out.2.2.2]; exact hgei3)] at this
              have Hdr := Lib.hid e2
              have ca1 := xa.cell 3
              clear e2
              have hvt : v = true := HV.out.2 (by
                have q0 := HN.out
                have q1 := HB.out
                have q2 := Hjt.out
                have q3 := Hdr.out
                obtain ⟨a1, a2, a3, a4⟩ := L
                obtain ⟨b1, b2, b3, b4⟩ := M
                simp only at q0 q1 q2 q3
                rw [q0, q1, q2, q3])
              subst hvt
              go_wp2_with fail
              go_ret
              exact ⟨rfl, bwa⟩
end Go.Proofs.YtoiijifnfdgfpaaGreatDoor

/- Walks: the Parse laws: the example is awake; ParseChecked. -/
namespace Go.Proofs.YtoiijifnfdgfpaaGreatDoor
open Go Go.RowKit Bn
attribute [local go_sem ↓] Go.wp_at_zero Go.wp_at_succ
theorem ReadOut.err {s : List UInt8} {x : Int} {L : LinkL} (h : ReadOut s x L) (hx : x ≠ 0) : L = L0 := by
  cases h with
  | split _ _ _ h => exact h
  | read _ _ _ _ h => exact h
  | check _ _ _ _ _ h => exact h
  | ok l hs hr hc h hL => exact absurd h hx
theorem LkS.mono {k k' : Nat} {w : World} {A B C : Option Addr} {n c p d q e : Nat} {L : LinkL} (h : LkS k w A n c B p d C q e L) (hk : k ≤ k') : LkS k' w A n c B p d C q e L := by
  have hr : ∀ g o r, RatAt w g o r k → RatAt w g o r k' := fun g o r ⟨b, A, n, c, D, m, e, h1, h2, h3, h4⟩ => ⟨b, A, n, c, D, m, e, h1, h2, h3, h4.1, h4.2.1, h4.2.2.1, Nat.le_trans h4.2.2.2.1 hk, Nat.le_trans h4.2.2.2.2 hk⟩
  refine ⟨h.name, h.bodies.mono_ fun g o b _ hp => ?_, h.joints, h.drivers⟩
  obtain ⟨A', n', c', c0, c1, hM, hn⟩ := hp
  exact ⟨A', n', c', c0, c1, hM.mono_ fun g o m _ hm => ⟨hm.1, hr _ _ _ hm.2.1, hr _ _ _ hm.2.2.1, hm.2.2.2⟩, hn⟩
end Go.Proofs.YtoiijifnfdgfpaaGreatDoor

/- Walks: the Print laws: PrintDiffers. -/
namespace Go.Proofs.YtoiijifnfdgfpaaGreatDoor
open Go Go.RowKit Bn
attribute [local go_sem ↓] Go.wp_at_zero Go.wp_at_succ
theorem out_ok {L : LinkL} (h : outErr L = 0) : lkErr L = 0 ∧ outText L = lkText L := by
  refine ⟨?_, if_pos h⟩
  unfold outErr at h
  split at h
  · exact h
  · rename_i h0; simpa using h0
end Go.Proofs.YtoiijifnfdgfpaaGreatDoor

/- Walks: the Print laws: PrintReturns. -/
namespace Go.Proofs.YtoiijifnfdgfpaaGreatDoor
open Go Go.RowKit Bn
attribute [local go_sem ↓] Go.wp_at_zero Go.wp_at_succ
theorem l_PrintReturns (w : World) (A : Option Addr) (n c : Nat) (B : Option Addr) (p d : Nat) (C : Option Addr) (q e : Nat) (L : LinkL) (h : LkS reachBytes w A n c B p d C q e L) (htab : Tab w) (hmx : Mx w) : Calls Tryz.prog 11 #[.agg #[strV L.name, .slice A n c, .slice B p d, .slice C q e]] w (RetV w (.bool true)) := by
 have H := Lib.hid h
 have HTab := Lib.hid htab
 have HM := Lib.hid hmx
 obtain ⟨v, hv⟩ : ∃ v, lgL L = v := ⟨_, rfl⟩
 have HV := Lib.hid hv
 clear h htab hv hmx
 go_enter Tryz.func11, Tryz.ntmps11
 go_wp2_with fail
 have q0 : Below w.heap.size w (w.alloc (.cells #[strV L.name, .slice A n c, .slice B p d, .slice C q e] 36)) := (brefl w).alloc (Nat.le_refl _) _
 have x0 : Blk (w.alloc (.cells #[strV L.name, .slice A n c, .slice B p d, .slice C q e] 36)) w.heap.size 36 #[strV L.name, .slice A n c, .slice B p d, .slice C q e] := blkAt _ _ _ rfl
 generalize (w.alloc (.cells #[strV L.name, .slice A n c, .slice B p d, .slice C q e] 36)) = w0 at q0 x0 ⊢
 (with_reducible refine (l21_awake w0 (HTab.out.belw q0)).mono ?_); rintro e' w1 ⟨rfl, hb1⟩
 have q1 := q0.trans (hb1.mono q0.size)
 have x1 := x0.below hb1 x0.lt
 have hl1 : w.heap.size < w1.heap.size := x1.lt
 obtain ⟨c0, c1, c2, c3⟩ := x1.c4
 clear x0 q0 hb1
 go_wp2_with fail
 (with_reducible refine (l_large w1 A n c B p d C q e L (H.out.belw q1) v HV.out).mono ?_); rintro e' w2 ⟨rfl, hb2⟩
 have q2 := q1.trans (hb2.mono q1.size)
 have x2 := x1.below hb2 x1.lt
 have hl2 : w.heap.size < w2.heap.size := x2.lt
 clear c0 c1 c2 c3 x1 q1 hb2
 cases v
 rotate_left
 ·go_wp2_with fail
  (with_reducible refine (l21_awake w2 (HTab.out.belw q2)).mono ?_); rintro e' w3 ⟨rfl, hb3⟩
  have q3 := q2.trans (hb3.mono q2.size)
  go_wp2_with fail
  go_ret
  exact ⟨rfl, q3⟩
 have H40 := Lib.hid ((H.out.belw q2).of40 HV.out)
 obtain ⟨c0, c1, c2, c3⟩ := x2.c4
 go_wp2_with fail
 (with_reducible refine (p_lk w2 A n c B p d C q e L H40.out (HTab.out.belw q2)).mono ?_); rintro e' w3 ⟨rfl, hb3⟩
 have q3 := q2.trans (hb3.mono q2.size)
 have x3 := x2.below hb3 x2.lt
 have hl3 : w.heap.size < w3.heap.size := x3.lt
 have H3 := Lib.hid (H40.out.belw hb3)
 clear c0 c1 c2 c3 hb3 x2 H40
 obtain ⟨c0, c1, c2, c3⟩ := x3.c4
 by_cases hE : outErr L = 0
 ·have hR := text_read hE H.out.words
  obtain ⟨k1, k2⟩ := out_ok hE
  rw [hE, errV_0, k2]
  have hF := lkErr_full k1
  have hps : ∀ b ∈ L.bodies, b.pts.length ≤ 1000 := fun b hb => by have := (hF.ok.body b hb).2.1; omega
  have hn := hF.ok.nb
  have hp := hF.ok.nj
  have hq := hF.ok.nd
  rw [H.out.bodies.1] at hn
  rw [H.out.joints.1] at hp
  rw [H.out.drivers.1] at hq
  have HPS := Lib.hid hps
  obtain ⟨T, hT⟩ : ∃ T, lkText L = T := ⟨_, rfl⟩
  rw [hT] at hR ⊢
  have HR := Lib.hid hR
  clear hE hR k1 k2 hF hps hT
  go_wp2_with fail
  (with_reducible refine (ps_linkage w3 T 0 L (HM.out.belw q3) HR.out).mono ?_); rintro e' w4 ⟨A', n', c', B', p', d', C', q', f', rfl, hL4, hb4⟩
  rw [errV_0]
  have q4 := q3.trans (hb4.mono q3.size)
  have x4 := x3.below hb4 x3.lt
  have hl4 : w.heap.size < w4.heap.size := x4.lt
  have hne : ¬ w.heap.size = w4.heap.size := by omega
  have H4 := Lib.hid (H3.out.belw hb4)
  have HL4 := Lib.hid hL4
  clear c0 c1 c2 c3 hb4 x3 hL4 H3
  obtain ⟨c0, c1, c2, c3⟩ := x4.c4
  go_wp2_with fail
  have hq := (brefl w4).alloc (Nat.le_refl _) (.cells #[strV L.name, .slice A' n' c', .slice B' p' d', .slice C' q' f'] 36)
  (refine (b_link_d _ A n c B p d C q e L ((H4.out.belw hq).mono (by decide)) A' n' c' B' p' d' C' q' f' L ((HL4.out.belw hq).mono (by decide)) HPS.out (by omega) (by omega) (by omega) true (by simp)).mono ?_); rintro e' w5 ⟨rfl, hb5⟩
  have q5 := (q4.trans (hq.mono q4.size)).trans (hb5.mono (Nat.le_trans q4.size hq.size))
  go_wp2_with fail
  go_ret
  exact ⟨rfl, q5⟩
 ·have hT : outText L = [] := if_neg hE
  rw [hT, eVp hE]
  by_cases hc : lkErr L = 0
  ·have h4 : outErr L = 4 := by
    unfold outErr at hE ⊢
    rw [if_neg (by rw [hc]; simp)] at hE ⊢
    split at hE
    ·rename_i h0; rw [if_pos h0]
    ·exact absurd rfl hE
   rw [h4]
   clear hE hT h4
   go_wp2_with fail
   (with_reducible refine (m_check w3 A n c B p d C q e L 40 H3.out (by decide) (by decide) 0 hc).mono ?_); rintro e' w4 ⟨rfl, hb4⟩
   rw [errV_0]
   have q4 := q3.trans (hb4.mono q3.size)
   go_wp2_with fail
   (with_reducible refine (b_is w4 4).mono ?_); rintro e' w5 ⟨rfl, hb5⟩
   have q5 := q4.trans (hb5.mono q4.size)
   go_wp2_with fail
   go_ret
   exact ⟨rfl, q5⟩
  ·have hc2 := hc
   clear hE hT
   go_wp2_with fail
   (with_reducible refine (m_check w3 A n c B p d C q e L 40 H3.out (by decide) (by decide) _ rfl).mono ?_); rintro e' w4 ⟨rfl, hb4⟩
   rw [eVp hc2]
   have q4 := q3.trans (hb4.mono q3.size)
   go_wp2_with fail
   go_ret
   exact ⟨rfl, q4⟩
end Go.Proofs.YtoiijifnfdgfpaaGreatDoor

/- The arguments of a row opened: integers, fractions and turns that came in. -/
namespace Go.Proofs.YtoiijifnfdgfpaaGreatDoor
open Go Go.RowKit Bn Go.ChangeShapes Go.WideShapes
attribute [local go_sem ↓] Go.wp_at_zero Go.wp_at_succ

theorem args_again {H : Type} {enc : TypeId × Value → H} {W : World} {P : Program} (hl : laidOutB P = true) {W' : World} (hb : Below W.heap.size W W') : ∀ {ts : List TypeId} {vs : List Value} {ds : List (DataW H)} {ps : List MemPlace}, (ts.all fun t => P.readableRec t && decide (t < P.types.size)) = true →
    DataW.TrodAll enc P W 0 (fun _ => true) true ts vs ds ps → DataW.TrodAll enc P W' 0 (fun b => decide (b < W.heap.size)) true ts vs ds ps
  | [], [], [], _, _, h => h
  | _ :: _, _ :: _, _ :: _, _, hr, h => by
    have hlt := h.lt
    obtain ⟨p, q, h1, h2, e⟩ := h
    rw [List.all_cons, Bool.and_eq_true, Bool.and_eq_true, decide_eq_true_eq] at hr
    exact ⟨p, q, Below.trod hl hr.1.1 hr.1.2 h1 hb (fun x hx => hlt x (by rw [e]; exact List.mem_append_left _ hx)), args_again hl hb hr.2 h2, e⟩
  | [], [], _ :: _, _, _, h => h.elim
  | [], _ :: _, _, _, _, h => h.elim
  | _ :: _, [], _, _, _, h => h.elim
  | _ :: _, _ :: _, [], _, _, h => h.elim
theorem law_post {H : Type} {enc : TypeId × Value → H} {W : World} {P : Program} {B : TypeId} {f : Func} {s : ChangeSpec} {W' : World} {args : Array Value} {ds : List (DataW H)} {before : List MemPlace} (hl : laidOutB P = true) (hB : P.underlying B = some .bool)
    (hW : DataW.Whole enc P f.params.toList s.vars false W args.toList ds [] before) (hv : s.vars = []) (hr : f.resultTypes = #[B]) (hp : (f.params.toList.all fun t => P.readableRec t && decide (t < P.types.size)) = true)
    (hres : (s.fn H (ds ++ [])).results = [.lit (.bool true)]) (hargs : (s.fn H (ds ++ [])).args = ds) (hvars : (s.fn H (ds ++ [])).vars = []) (hb : Below W.heap.size W W') :
    s.post enc P f false true false false W args (.bool true) W' := by
  have hW' := hW
  obtain ⟨p, q, hA, hV, rfl, _, _⟩ := hW
  have hV' := hV
  rw [hv] at hV'
  obtain ⟨_, rfl⟩ := trodVars_none hV'
  refine ⟨ds, [], _, [], p, [], hW', ?_, ?_, ?_, hb.frame _, fun h => by cases h⟩
  · rw [hr, hres]
    exact trodAll_mk1 (shut_bool hB _)
  · rw [hargs]
    exact args_again hl hb hp hA
  · rw [hv, hvars]
    rfl
theorem joined_parts {P : Program} {f : FuncId} {fn : Func} {s : ChangeSpec} {c : OpenClaim}
    (h1 : (c.wf (OpenSpec.ofChange s) && laidOutB P && mapsRowed P && fn.params.all (P.readableRec ·) && namedTie P c.named s.vars && (c.stops == []) && (P.stops == []) && (c.knobs == []) && (P.stopKnobs == [])) = true)
    (h2 : (c.inPlace == P.inPlace f) = true) (h3 : (c.unfollowed == P.unfollowed f) = true) (h4 : (c.recurses == P.recurses f) = true) (h5 : (c.named == P.varsNamed f) = true)
    (h6 : ((c.maps == (fn.params.toList ++ s.plain.varTypes P).any (P.mapsRec ·)) && (c.ifaces == (fn.params.toList ++ s.plain.varTypes P).any (P.ifacesRec ·)) && (c.mapsOut == P.mapsAmong fn.resultTypes.toList) &&
      (c.loops == (fn.params.toList ++ s.plain.varTypes P).any (P.loopsFrom ·)) && (c.wideKeys == (fn.params.toList ++ s.plain.varTypes P ++ fn.resultTypes.toList).any (P.wideKeysFrom ·)) &&
      s.vars.all (P.varReadable ·) && fn.resultTypes.all (fun t => P.readableRec t && decide (t < P.types.size)) && (c.ifacesOut == fn.resultTypes.toList.any (P.ifacesRec ·)) && (c.loopsOut == fn.resultTypes.toList.any (P.loopsFrom ·)) && (c.plainKeys == P.plainKeys) && c.shortTexts.isNone && P.stopsHeard && P.mayEnter && (c.lifted == P.liftsFinal) && (P.make == some c.make) && (c.kinds == (if c.domain.isEmpty then [] else fn.params.toList.map fun t => match P.underlying t with | some (.int k) => some k | _ => none)) && (c.pinned == c.pinnedBy) &&
      (c.veiled == (fn.params.toList ++ s.plain.varTypes P ++ fn.resultTypes.toList).any (P.veiledRec ·)) && c.veiledFits P fn.params.toList (fn.params.toList ++ s.plain.varTypes P ++ fn.resultTypes.toList)) = true) : joinedFacts P f fn s c = true := by
  unfold joinedFacts
  simp only [Bool.and_eq_true] at h1 h6 ⊢
  obtain ⟨⟨⟨⟨⟨⟨⟨⟨a0, a1⟩, a2⟩, a3⟩, a4⟩, a5⟩, a6⟩, a7⟩, a8⟩ := h1
  obtain ⟨⟨⟨⟨⟨⟨⟨⟨⟨⟨⟨⟨⟨⟨⟨⟨⟨⟨b0, b1⟩, b2⟩, b3⟩, b4⟩, b5⟩, b6⟩, b7⟩, b8⟩, b9⟩, b10⟩, b11⟩, b12⟩, b13⟩, b14⟩, b15⟩, b16⟩, b17⟩, b18⟩ := h6
  exact ⟨⟨⟨⟨⟨⟨⟨⟨⟨⟨⟨⟨⟨⟨⟨⟨⟨⟨⟨⟨⟨⟨⟨⟨⟨⟨⟨⟨⟨⟨⟨a0, a1⟩, a2⟩, a3⟩, a4⟩, a5⟩, a6⟩, a7⟩, a8⟩, h2⟩, h3⟩, h4⟩, h5⟩, b0⟩, b1⟩, b2⟩, b3⟩, b4⟩, b5⟩, b6⟩, b7⟩, b8⟩, b9⟩, b10⟩, b11⟩, b12⟩, b13⟩, b14⟩, b15⟩, b16⟩, b17⟩, b18⟩
section
variable {H : Type} {enc : TypeId × Value → H} {W : World} {base : Nat}
theorem cells_ok {t : TypeId} {fs : Array Field} {ts : List TypeId} {v : Value} (hu : Tryz.prog.underlying t = some (.struct fs)) (hts : Tryz.prog.cellTypes Tryz.prog.depth t = some ts) (hn : Tryz.prog.cellsOf t = ts.length) (h : Value.okWide Tryz.prog W .any base t v) :
    ∃ cs : Array Value, v = .agg cs ∧ cs.size = ts.length ∧ ∀ (i : Nat) (v : Value) (u : TypeId), cs[i]? = some v → ts[i]? = some u → Cell.okWide Tryz.prog W .any base u v := by
  unfold Value.okWide at h
  rw [hu] at h
  obtain ⟨cs, rfl, hsz, ts', hts', _, hc⟩ := h
  rw [hts] at hts'
  injection hts' with e
  subst e
  rw [hn] at hsz
  refine ⟨cs, rfl, hsz, fun i v u hi hu => ?_⟩
  obtain ⟨u', h1, h2⟩ := hc i v hi
  have hlt : i < ts.length := by rw [← hsz]; exact (Array.getElem?_eq_some_iff.1 hi).1
  rw [Nat.mod_eq_of_lt hlt, hu] at h1
  injection h1 with h1
  subst h1
  exact h2
end
theorem mx_of_shaped {W : World} (h : W.ShapedOpen Tryz.prog) : ∃ m, W.cell? ⟨0, 0, none⟩ = some (.int .i64 m) :=
  Go.Proofs.cell_of_shapedOpen_int (P := Tryz.prog) (g := 0) (t := 3) (zero := #[.int .i64 0]) h (of_decide_eq_true (by kernel_rfl)) (by kernel_rfl) rfl (by kernel_rfl) (by kernel_rfl) Tryz.underlying3
theorem g_pow : Tryz.prog.globalNamed "internal/strconv.uint64pow10" = some 1 := by kernel_rfl
theorem ty_pow : (Tryz.prog.globals[1]?).map (·.type) = some 241 := by kernel_rfl
theorem cells_pow : Tryz.prog.cellsOf 241 = 20 := by kernel_rfl
theorem cells_u64 : Tryz.prog.cellsOf 138 = 1 := by kernel_rfl
theorem pow_data {H : Type} : (Rows.laid_internal_strconv_uint64pow10 : DataW H) = Lib.tabData .u64 Lib.pow10Tab := by kernel_rfl
theorem tab_of_laid {rest : List (String × DataW Unit)} {W : World} (h : laidMet Tryz.prog (("math/bits.deBruijn32tab", Rows.laid_math_bits_deBruijn32tab) :: ("math/bits.deBruijn64tab", Rows.laid_math_bits_deBruijn64tab) :: ("internal/strconv.uint64pow10", Rows.laid_internal_strconv_uint64pow10) :: rest) W) : Tab W := by
  obtain ⟨ps, ⟨_, _, _, _, _, _, _, _, _, _, ⟨_, _, _, _, _, _, _, _, _, _, ⟨g, t, cs, f, p, q, hg, ht, hv, hd, _, _⟩, _⟩, _⟩, _, _⟩ := h
  obtain rfl := Option.some.inj (g_pow.symm.trans hg)
  obtain rfl := Option.some.inj (ty_pow.symm.trans ht)
  rw [pow_data] at hd
  unfold Tab Lib.TabIs
  rw [hv, ← Lib.cells_of_tab Tryz.underlying241 Tryz.underlying138 cells_u64 cells_pow hd]
noncomputable def low : Nat := (World.holding Tryz.prog default ⟨#[], #[], []⟩).heap.size
noncomputable def laidWorld (os : Os) : World :=
  let w0 := World.holding Tryz.prog os ⟨#[.cells #[.string ⟨#[118, 97, 108, 117, 101, 32, 111, 117, 116, 32, 111, 102, 32, 114, 97, 110, 103, 101]⟩] 263, .cells #[.string ⟨#[105, 110, 118, 97, 108, 105, 100, 32, 115, 121, 110, 116, 97, 120]⟩] 263], #[], []⟩
  { w0 with heap := (((((((w0.heap.modify 1 fun
      | .cells _ t frozen => .cells (#[.int .u64 1, .int .u64 10, .int .u64 100, .int .u64 1000, .int .u64 10000, .int .u64 100000, .int .u64 1000000, .int .u64 10000000, .int .u64 100000000, .int .u64 1000000000, .int .u64 10000000000, .int .u64 100000000000, .int .u64 1000000000000, .int .u64 10000000000000, .int .u64 100000000000000, .int .u64 1000000000000000, .int .u64 10000000000000000, .int .u64 100000000000000000, .int .u64 1000000000000000000, .int .u64 10000000000000000000]) t frozen
      | o => o).modify 6 fun
      | .cells _ t frozen => .cells (#[.int .u8 0, .int .u8 1, .int .u8 28, .int .u8 2, .int .u8 29, .int .u8 14, .int .u8 24, .int .u8 3, .int .u8 30, .int .u8 22, .int .u8 20, .int .u8 15, .int .u8 25, .int .u8 17, .int .u8 4, .int .u8 8, .int .u8 31, .int .u8 27, .int .u8 13, .int .u8 23, .int .u8 21, .int .u8 19, .int .u8 16, .int .u8 7, .int .u8 26, .int .u8 12, .int .u8 18, .int .u8 6, .int .u8 11, .int .u8 5, .int .u8 10, .int .u8 9]) t frozen
      | o => o).modify 7 fun
      | .cells _ t frozen => .cells (#[.int .u8 0, .int .u8 1, .int .u8 56, .int .u8 2, .int .u8 57, .int .u8 49, .int .u8 28, .int .u8 3, .int .u8 61, .int .u8 58, .int .u8 42, .int .u8 50, .int .u8 38, .int .u8 29, .int .u8 17, .int .u8 4, .int .u8 62, .int .u8 47, .int .u8 59, .int .u8 36, .int .u8 45, .int .u8 43, .int .u8 51, .int .u8 22, .int .u8 53, .int .u8 39, .int .u8 33, .int .u8 30, .int .u8 24, .int .u8 18, .int .u8 12, .int .u8 5, .int .u8 63, .int .u8 55, .int .u8 48, .int .u8 27, .int .u8 60, .int .u8 41, .int .u8 37, .int .u8 16, .int .u8 46, .int .u8 35, .int .u8 44, .int .u8 21, .int .u8 52, .int .u8 32, .int .u8 23, .int .u8 11, .int .u8 54, .int .u8 26, .int .u8 40, .int .u8 15, .int .u8 34, .int .u8 20, .int .u8 31, .int .u8 10, .int .u8 25, .int .u8 14, .int .u8 19, .int .u8 9, .int .u8 13, .int .u8 8, .int .u8 7, .int .u8 6]) t frozen
      | o => o).modify 5 fun
      | .cells _ t frozen => .cells (#[.int .u8 128, .int .u8 191, .int .u8 160, .int .u8 191, .int .u8 128, .int .u8 159, .int .u8 144, .int .u8 191, .int .u8 128, .int .u8 143, .int .u8 0, .int .u8 0, .int .u8 0, .int .u8 0, .int .u8 0, .int .u8 0, .int .u8 0, .int .u8 0, .int .u8 0, .int .u8 0, .int .u8 0, .int .u8 0, .int .u8 0, .int .u8 0, .int .u8 0, .int .u8 0, .int .u8 0, .int .u8 0, .int .u8 0, .int .u8 0, .int .u8 0, .int .u8 0]) t frozen
      | o => o).modify 4 fun
      | .cells _ t frozen => .cells ((Go.Pinned.utf8FirstZ.map fun z : Nat => Value.int .u8 (z : Int)).toArray) t frozen
      | o => o).modify 3 fun
      | .cells _ t frozen => .cells (#[.iface 261 (.pointer (some ⟨low, 0, none⟩))]) t frozen
      | o => o).modify 2 fun
      | .cells _ t frozen => .cells (#[.iface 261 (.pointer (some ⟨low + 1, 0, none⟩))]) t frozen
      | o => o) }
theorem own_knob : ownKnob Tryz.prog.godebug = none := by kernel_rfl
theorem laid_out : laidOutB Tryz.prog = true := by kernel_rfl
end Go.Proofs.YtoiijifnfdgfpaaGreatDoor

/- Linkages that came in, read as data. -/
namespace Go.Proofs.YtoiijifnfdgfpaaGreatDoor
open Go Go.RowKit Bn Go.ChangeShapes Go.WideShapes
attribute [local go_sem ↓] Go.wp_at_zero Go.wp_at_succ
section
variable {H : Type} {enc : TypeId × Value → H} {W : World}
theorem spot_none {a : Addr} {v : Value} (h : W.cell? a = some v) : ∃ g o, a = ⟨g, o, none⟩ ∧ g < W.heap.size := by
  obtain ⟨g, o, s⟩ := a
  unfold World.cell? at h
  dsimp only at h
  split at h
  · rename_i c _ _ hb
    cases s with
    | none => exact ⟨g, o, rfl, lt_of_block hb⟩
    | some _ => simp at h
  · cases h
def Szd (t : TypeId) (d : DataW H) : Prop := ∀ n ∈ DataW.weights Tryz.prog t d, n ≤ reachBytes
theorem Szd.field {t : TypeId} {fs : Array Field} {xs : List (DataW H × List MemPlace)} (hu : Tryz.prog.underlying t = some (.struct fs)) (h : Szd t (.agg (xs.map (·.1)))) {i : Nat} {f : Field} {y : DataW H × List MemPlace} (hf : fs[i]? = some f) (hy : xs[i]? = some y) : Szd f.type y.1 := by
  intro n hn
  refine h n ?_
  rw [DataW.weights, hu]
  exact DataW.weights_mem_each (j := i) (t := f.type) (d := y.1) (by rw [List.getElem?_map, Array.getElem?_toList, hf]; rfl) (by rw [List.getElem?_map, hy]; rfl) n hn
theorem weights_mem_all {P : Program} {e : TypeId} : ∀ {ds : List (DataW H)} {d : DataW H}, d ∈ ds → ∀ n ∈ DataW.weights P e d, n ∈ DataW.weightsAll P e ds
  | x :: ds, d, hd, n, hn => by
    rw [DataW.weightsAll, List.mem_append]
    rcases List.mem_cons.1 hd with rfl | hd
    · exact .inl hn
    · exact .inr (weights_mem_all hd n hn)
  | [], _, hd, _, _ => by cases hd
theorem Szd.elem {t e : TypeId} {l sp : List (DataW H)} (hu : Tryz.prog.underlying t = some (.slice e)) (h : Szd t (.slice l sp)) {d : DataW H} (hd : d ∈ l) : Szd e d := by
  intro n hn
  refine h n ?_
  rw [DataW.weights, hu]
  exact List.mem_cons_of_mem _ (List.mem_append_left _ (weights_mem_all hd n hn))
theorem Szd.room {t e : TypeId} {l sp : List (DataW H)} (hu : Tryz.prog.underlying t = some (.slice e)) (h : Szd t (.slice l sp)) : (l.length + sp.length) * Tryz.prog.bytesOf e ≤ reachBytes := by
  refine h _ ?_
  rw [DataW.weights, hu]
  exact List.mem_cons_self
theorem Szd.str {t : TypeId} {l : List UInt8} (h : Szd t (.lit (.string l) : DataW H)) : l.length ≤ reachBytes := h _ (by simp [DataW.weights])
theorem szd_of {ts : List TypeId} {ds : List (DataW H)} (h : (DataW.weightsEach Tryz.prog ts ds).all (· ≤ reachBytes) = true) {j : Nat} {t : TypeId} {d : DataW H} (ht : ts[j]? = some t) (hd : ds[j]? = some d) : Szd t d := fun n hn => by simpa using List.all_eq_true.1 h n (DataW.weights_mem_each ht hd n hn)
theorem add0 {g o i : Nat} : (⟨g, o, none⟩ : Addr).add i = ⟨g, o + i, none⟩ := add_plain g o i
theorem words_trod {v : Value} {fuel : Nat} {x : DataW H × List MemPlace} (ht : DataW.trod enc Tryz.prog W 0 (fun _ => true) true fuel 70 [v] = some x) (hz : Szd 70 x.1) :
    ∃ A n c l, v = .slice A n c ∧ Wd W A n c l ∧ n ≤ reachBytes := by
  rcases open_ints Tryz.underlying70 Tryz.underlying82 (by kernel_rfl) ht with ⟨hv, _⟩ | ⟨a, len, cap, zs, hv, _, hl, hcm, hzl, hx, hc, hwf⟩
  · injection hv with hv _
    exact ⟨none, 0, 0, [], hv, Wd.nil_ W, Nat.zero_le _⟩
  · injection hv with hv _
    subst hv
    rw [hx] at hz
    have hrm := hz.room Tryz.underlying70
    have hb4 : Tryz.prog.bytesOf 82 = 4 := by kernel_rfl
    rw [hb4] at hrm
    have hz : zs.length = cap := by simpa using hzl
    have hlr : len ≤ reachBytes := by
      have : (lits (H := H) .u32 (zs.take len)).length = len := by simp [lits]; omega
      omega
    have h0 : ∀ i, i < zs.length → 0 ≤ zs.getD i 0 ∧ zs.getD i 0 ≤ 4294967295 := by
      intro i hi
      have h1 := hwf (zs.getD i 0) (by rw [List.getD_eq_getElem?_getD, List.getElem?_eq_getElem hi]; simp)
      simpa [Lit.wf, IntKind.min, IntKind.max, IntKind.signed, IntKind.bits] using h1
    refine ⟨some a, len, cap, (zs.take len).map Int.toNat, rfl, ⟨?_, ?_, hl, fun hn => ?_⟩, hlr⟩
    · intro y hy
      obtain ⟨z, hz1, rfl⟩ := List.mem_map.1 hy
      obtain ⟨i, hi, he⟩ := List.getElem_of_mem hz1
      have hi2 : i < zs.length := by rw [List.length_take] at hi; omega
      have h1 := h0 i hi2
      rw [List.getD_eq_getElem?_getD, List.getElem?_eq_getElem hi2] at h1
      rw [List.getElem_take] at he
      simp only [Option.getD_some] at h1
      rw [he] at h1
      omega
    · rw [List.length_map, List.length_take]; omega
    · have hc0 := hc 0 (by omega)
      have e0 : a.add 0 = a := by simp [Addr.add]
      rw [e0] at hc0
      obtain ⟨g, o, rfl, _⟩ := spot_none hc0
      have hc1 := hc0
      unfold World.cell? at hc1
      dsimp only at hc1
      split at hc1
      · rename_i cur el fr hb
        have hr : RowW W g cur fr := ⟨el, .inr (noU_of (i := o) (k := .u32) (z := zs.getD 0 0) (by simpa using hc1)), hb⟩
        refine ⟨g, o, cur, fr, rfl, hr, fun i hi => ?_⟩
        have h1 := hc i (by omega)
        have h2 := h0 i (by omega)
        rw [add0, hr.cell] at h1
        rw [h1]
        have e4 : wd ((zs.take len).map Int.toNat) i = (zs.getD i 0).toNat := by
          unfold wd
          rw [List.getD_eq_getElem?_getD, List.getElem?_map, List.getElem?_take, if_pos hi, List.getD_eq_getElem?_getD]
          rcases zs[i]? with _ | z <;> rfl
        rw [e4, Int.toNat_of_nonneg h2.1]
      · cases hc1
theorem cells_bool : Tryz.prog.cellsOf 4 = 1 := by kernel_rfl
theorem cells_int : Tryz.prog.cellsOf 3 = 1 := by kernel_rfl
theorem cells_str : Tryz.prog.cellsOf 9 = 1 := by kernel_rfl
theorem cells_words : Tryz.prog.cellsOf 70 = 1 := by kernel_rfl
theorem cells_rat : Tryz.prog.cellsOf 72 = 3 := by kernel_rfl
theorem some_at {α : Type} {xs : List α} {i : Nat} (h : i < xs.length) : xs[i]? = some xs[i] := List.getElem?_eq_getElem h
theorem rat_trod {v0 v1 v2 : Value} {fuel : Nat} {x : DataW H × List MemPlace} (ht : DataW.trod enc Tryz.prog W 0 (fun _ => true) true fuel 72 [v0, v1, v2] = some x) (hz : Szd 72 x.1) :
    ∃ b A n c D m e r, v0 = .bool b ∧ v1 = .slice A n c ∧ v2 = .slice D m e ∧ QD W b A n c D m e r reachBytes := by
  obtain ⟨xs, n, _, hx, _, hxl, hf⟩ := DataW.trod_struct Tryz.underlying72 ht
  rw [hx] at hz
  have f0 : DataW.trod enc Tryz.prog W 0 (fun _ => true) true n 4 (List.take (Tryz.prog.cellsOf 4) [v0, v1, v2]) = xs[0]? := hf 0 _ rfl
  have f1 : DataW.trod enc Tryz.prog W 0 (fun _ => true) true n 70 (List.take (Tryz.prog.cellsOf 70) [v1, v2]) = xs[1]? := hf 1 _ rfl
  have f2 : DataW.trod enc Tryz.prog W 0 (fun _ => true) true n 70 (List.take (Tryz.prog.cellsOf 70) [v2]) = xs[2]? := hf 2 _ rfl
  rw [cells_bool] at f0
  rw [cells_words] at f1 f2
  have hx0 : xs.length = 3 := hxl
  rw [some_at (show 0 < xs.length by omega)] at f0
  have z0 := hz.field Tryz.underlying72 (i := 0) rfl (some_at (show 0 < xs.length by omega))
  rw [some_at (show 1 < xs.length by omega)] at f1
  have z1 := hz.field Tryz.underlying72 (i := 1) rfl (some_at (show 1 < xs.length by omega))
  rw [some_at (show 2 < xs.length by omega)] at f2
  have z2 := hz.field Tryz.underlying72 (i := 2) rfl (some_at (show 2 < xs.length by omega))
  obtain ⟨b, hb, _⟩ := DataW.trod_bool Tryz.underlying4 f0
  obtain ⟨A, n1, cc, l, rfl, h1, k1⟩ := words_trod f1 z1
  obtain ⟨D, m, e, l', rfl, h2, k2⟩ := words_trod f2 z2
  injection hb with hb _
  exact ⟨b, A, n1, cc, D, m, e, ⟨b, l, l'⟩, hb, rfl, rfl, rfl, h1, h2, k1, k2⟩
theorem str_trod {v : Value} {fuel : Nat} {x : DataW H × List MemPlace} (ht : DataW.trod enc Tryz.prog W 0 (fun _ => true) true fuel 9 [v] = some x) (hz : Szd 9 x.1) : ∃ t : List UInt8, v = strV t ∧ NmL t := by
  obtain ⟨s, hs, hx, _⟩ := DataW.trod_string Tryz.underlying9 ht
  injection hs with hs _
  subst hs
  obtain ⟨t, rfl⟩ : ∃ t : List UInt8, s = ⟨t.toArray⟩ := ⟨s.data.toList, by simp⟩
  refine ⟨t, rfl, ?_⟩
  rw [hx] at hz
  have h9 : t.length ≤ reachBytes := hz.str
  have h8 := reachBytes_lt
  unfold NmL
  omega
theorem sls_open {α : Type} [Inhabited α] (P0 : World → Nat → Nat → α → Prop) {t e : TypeId} (s : Nat) (ht : Tryz.prog.underlying t = some (.slice e)) (hs : Tryz.prog.cellsOf e = s) (hs0 : 0 < s)
    (one : ∀ (fuel : Nat) (cs : List Value) (y : DataW H × List MemPlace) (g o : Nat), cs.length = s → (∀ i, i < s → W.cell? ⟨g, o + i, none⟩ = cs[i]?) → DataW.trod enc Tryz.prog W 0 (fun _ => true) true fuel e cs = some y → Szd e y.1 → ∃ a, P0 W g o a)
    {v : Value} {fuel : Nat} {x : DataW H × List MemPlace} (h : DataW.trod enc Tryz.prog W 0 (fun _ => true) true fuel t [v] = some x) (hz : Szd t x.1) : ∃ A n c l, v = .slice A n c ∧ SlS P0 s W A n c l := by
  rcases Go.Deep.open_slice ht h with ⟨hv, _⟩ | ⟨a, len, cap, m, n, D, Pl, hv, _, hl, hm, hmm, hxe, hx⟩
  · injection hv with hv _
    exact ⟨none, 0, 0, [], hv, ⟨rfl, Nat.le_refl _, fun h => absurd h (by omega)⟩⟩
  · injection hv with hv _
    subst hv
    rw [hxe] at hz
    have hmc : m = cap := by simpa using hmm
    subst hmc
    rw [hs] at hx
    rcases Nat.eq_zero_or_pos len with h0 | h0
    · subst h0
      exact ⟨some a, 0, m, [], rfl, ⟨rfl, Nat.zero_le _, fun h => absurd h (by omega)⟩⟩
    · obtain ⟨cs0, hc0, _⟩ := hx 0 (by omega)
      obtain ⟨_, hl0, hce⟩ := World.cells?_some hc0
      have h00 := hce 0 hs0
      rw [some_at (show 0 < cs0.length by omega)] at h00
      have e0 : (a.add (0 * s)).add 0 = a := by simp [Addr.add]
      rw [e0] at h00
      obtain ⟨g, o, rfl, hg⟩ := spot_none h00
      obtain ⟨f, hf⟩ := Go.Deep.choose_lt (n := len) (p := fun i a => P0 W g (o + i * s) a) (fun i hi => by
        obtain ⟨cs, h1, h2⟩ := hx i (by omega)
        obtain ⟨_, h3, h4⟩ := World.cells?_some h1
        refine one n cs _ g (o + i * s) h3 (fun j hj => ?_) h2 (hz.elem ht (List.mem_map.2 ⟨i, List.mem_range.2 hi, rfl⟩))
        rw [← h4 j hj, add0, add0])
      refine ⟨_, len, m, (List.range len).map f, rfl, ⟨by simp, hl, fun _ => ⟨g, o, rfl, hg, fun i a ha => ?_⟩⟩⟩
      rw [List.getElem?_map] at ha
      rcases Nat.lt_or_ge i len with hi | hi
      · rw [List.getElem?_range hi] at ha
        injection ha with ha
        subst ha
        exact hf i hi
      · rw [List.getElem?_eq_none (by simpa using hi)] at ha
        cases ha
instance : Inhabited MarkL := ⟨⟨[], ⟨false, [], []⟩, ⟨false, [], []⟩⟩⟩
instance : Inhabited BodyL := ⟨⟨[], []⟩⟩
instance : Inhabited JointL := ⟨⟨[], 0, 0, 0, 0, 0, 0⟩⟩
instance : Inhabited DriverL := ⟨⟨[], 0⟩⟩
theorem mark_one (fuel : Nat) (cs : List Value) (y : DataW H × List MemPlace) (g o : Nat) (hl : cs.length = 7) (hc : ∀ i, i < 7 → W.cell? ⟨g, o + i, none⟩ = cs[i]?) (ht : DataW.trod enc Tryz.prog W 0 (fun _ => true) true fuel 85 cs = some y) (hz : Szd 85 y.1) : ∃ a, MkAt reachBytes W g o a := by
  match cs, hl with
  | [v0, v1, v2, v3, v4, v5, v6], _ =>
    obtain ⟨xs, n, _, hx, _, hxl, hf⟩ := DataW.trod_struct Tryz.underlying85 ht
    rw [hx] at hz
    have f0 : DataW.trod enc Tryz.prog W 0 (fun _ => true) true n 9 (List.take (Tryz.prog.cellsOf 9) [v0, v1, v2, v3, v4, v5, v6]) = xs[0]? := hf 0 _ rfl
    have f1 : DataW.trod enc Tryz.prog W 0 (fun _ => true) true n 72 (List.take (Tryz.prog.cellsOf 72) [v1, v2, v3, v4, v5, v6]) = xs[1]? := hf 1 _ rfl
    have f2 : DataW.trod enc Tryz.prog W 0 (fun _ => true) true n 72 (List.take (Tryz.prog.cellsOf 72) [v4, v5, v6]) = xs[2]? := hf 2 _ rfl
    rw [cells_str] at f0
    rw [cells_rat] at f1 f2
    have hx0 : xs.length = 3 := hxl
    rw [some_at (show 0 < xs.length by omega)] at f0
    have z0 := hz.field Tryz.underlying85 (i := 0) rfl (some_at (show 0 < xs.length by omega))
    rw [some_at (show 1 < xs.length by omega)] at f1
    have z1 := hz.field Tryz.underlying85 (i := 1) rfl (some_at (show 1 < xs.length by omega))
    rw [some_at (show 2 < xs.length by omega)] at f2
    have z2 := hz.field Tryz.underlying85 (i := 2) rfl (some_at (show 2 < xs.length by omega))
    obtain ⟨nm, rfl, hn⟩ := str_trod f0 z0
    obtain ⟨b, A, n1, c, D, m, e, r, rfl, rfl, rfl, h1⟩ := rat_trod f1 z1
    obtain ⟨b', A', n1', c', D', m', e', r', rfl, rfl, rfl, h2⟩ := rat_trod f2 z2
    have k0 := hc 0 (by omega)
    have k1 := hc 1 (by omega)
    have k2 := hc 2 (by omega)
    have k3 := hc 3 (by omega)
    have k4 := hc 4 (by omega)
    have k5 := hc 5 (by omega)
    have k6 := hc 6 (by omega)
    exact ⟨⟨nm, r, r'⟩, k0, ⟨b, A, n1, c, D, m, e, k1, k2, k3, h1⟩, ⟨b', A', n1', c', D', m', e', k4, k5, k6, h2⟩, hn⟩
theorem body_one (fuel : Nat) (cs : List Value) (y : DataW H × List MemPlace) (g o : Nat) (hl : cs.length = 2) (hc : ∀ i, i < 2 → W.cell? ⟨g, o + i, none⟩ = cs[i]?) (ht : DataW.trod enc Tryz.prog W 0 (fun _ => true) true fuel 56 cs = some y) (hz : Szd 56 y.1) : ∃ a, BdAt reachBytes W g o a := by
  match cs, hl with
  | [v0, v1], _ =>
    obtain ⟨xs, n, _, hx, _, hxl, hf⟩ := DataW.trod_struct Tryz.underlying56 ht
    rw [hx] at hz
    have f0 : DataW.trod enc Tryz.prog W 0 (fun _ => true) true n 9 (List.take (Tryz.prog.cellsOf 9) [v0, v1]) = xs[0]? := hf 0 _ rfl
    have f1 : DataW.trod enc Tryz.prog W 0 (fun _ => true) true n 54 (List.take (Tryz.prog.cellsOf 54) [v1]) = xs[1]? := hf 1 _ rfl
    have c1 : Tryz.prog.cellsOf 54 = 1 := by kernel_rfl
    rw [cells_str] at f0
    rw [c1] at f1
    have hx0 : xs.length = 2 := hxl
    rw [some_at (show 0 < xs.length by omega)] at f0
    have z0 := hz.field Tryz.underlying56 (i := 0) rfl (some_at (show 0 < xs.length by omega))
    rw [some_at (show 1 < xs.length by omega)] at f1
    have z1 := hz.field Tryz.underlying56 (i := 1) rfl (some_at (show 1 < xs.length by omega))
    obtain ⟨nm, rfl, hn⟩ := str_trod f0 z0
    obtain ⟨A, n1, c, l, rfl, h1⟩ := sls_open (MkAt reachBytes) 7 Tryz.underlying54 (by kernel_rfl) (by decide) mark_one f1 z1
    have k0 := hc 0 (by omega)
    have k1 := hc 1 (by omega)
    exact ⟨⟨nm, l⟩, A, n1, c, k0, k1, h1, hn⟩
theorem int_trod {v : Value} {fuel : Nat} {x : DataW H × List MemPlace} (ht : DataW.trod enc Tryz.prog W 0 (fun _ => true) true fuel 3 [v] = some x) : ∃ i : Int, v = .int .i64 i := by
  obtain ⟨i, hi, _⟩ := DataW.trod_int Tryz.underlying3 ht
  injection hi with hi _
  exact ⟨i, hi⟩
theorem joint_one (fuel : Nat) (cs : List Value) (y : DataW H × List MemPlace) (g o : Nat) (hl : cs.length = 7) (hc : ∀ i, i < 7 → W.cell? ⟨g, o + i, none⟩ = cs[i]?) (ht : DataW.trod enc Tryz.prog W 0 (fun _ => true) true fuel 60 cs = some y) (hz : Szd 60 y.1) : ∃ a, JtAt W g o a := by
  match cs, hl with
  | [v0, v1, v2, v3, v4, v5, v6], _ =>
    obtain ⟨xs, n, _, hx, _, hxl, hf⟩ := DataW.trod_struct Tryz.underlying60 ht
    rw [hx] at hz
    have f0 : DataW.trod enc Tryz.prog W 0 (fun _ => true) true n 9 (List.take (Tryz.prog.cellsOf 9) [v0, v1, v2, v3, v4, v5, v6]) = xs[0]? := hf 0 _ rfl
    have f1 : DataW.trod enc Tryz.prog W 0 (fun _ => true) true n 3 (List.take (Tryz.prog.cellsOf 3) [v1, v2, v3, v4, v5, v6]) = xs[1]? := hf 1 _ rfl
    have f2 : DataW.trod enc Tryz.prog W 0 (fun _ => true) true n 3 (List.take (Tryz.prog.cellsOf 3) [v2, v3, v4, v5, v6]) = xs[2]? := hf 2 _ rfl
    have f3 : DataW.trod enc Tryz.prog W 0 (fun _ => true) true n 3 (List.take (Tryz.prog.cellsOf 3) [v3, v4, v5, v6]) = xs[3]? := hf 3 _ rfl
    have f4 : DataW.trod enc Tryz.prog W 0 (fun _ => true) true n 3 (List.take (Tryz.prog.cellsOf 3) [v4, v5, v6]) = xs[4]? := hf 4 _ rfl
    have f5 : DataW.trod enc Tryz.prog W 0 (fun _ => true) true n 3 (List.take (Tryz.prog.cellsOf 3) [v5, v6]) = xs[5]? := hf 5 _ rfl
    have f6 : DataW.trod enc Tryz.prog W 0 (fun _ => true) true n 3 (List.take (Tryz.prog.cellsOf 3) [v6]) = xs[6]? := hf 6 _ rfl
    rw [cells_str] at f0
    rw [cells_int] at f1 f2 f3 f4 f5 f6
    have hx0 : xs.length = 7 := hxl
    rw [some_at (show 0 < xs.length by omega)] at f0
    have z0 := hz.field Tryz.underlying60 (i := 0) rfl (some_at (show 0 < xs.length by omega))
    rw [some_at (show 1 < xs.length by omega)] at f1
    have z1 := hz.field Tryz.underlying60 (i := 1) rfl (some_at (show 1 < xs.length by omega))
    rw [some_at (show 2 < xs.length by omega)] at f2
    have z2 := hz.field Tryz.underlying60 (i := 2) rfl (some_at (show 2 < xs.length by omega))
    rw [some_at (show 3 < xs.length by omega)] at f3
    have z3 := hz.field Tryz.underlying60 (i := 3) rfl (some_at (show 3 < xs.length by omega))
    rw [some_at (show 4 < xs.length by omega)] at f4
    have z4 := hz.field Tryz.underlying60 (i := 4) rfl (some_at (show 4 < xs.length by omega))
    rw [some_at (show 5 < xs.length by omega)] at f5
    have z5 := hz.field Tryz.underlying60 (i := 5) rfl (some_at (show 5 < xs.length by omega))
    rw [some_at (show 6 < xs.length by omega)] at f6
    have z6 := hz.field Tryz.underlying60 (i := 6) rfl (some_at (show 6 < xs.length by omega))
    obtain ⟨nm, rfl, hn⟩ := str_trod f0 z0
    obtain ⟨i1, rfl⟩ := int_trod f1
    obtain ⟨i2, rfl⟩ := int_trod f2
    obtain ⟨i3, rfl⟩ := int_trod f3
    obtain ⟨i4, rfl⟩ := int_trod f4
    obtain ⟨i5, rfl⟩ := int_trod f5
    obtain ⟨i6, rfl⟩ := int_trod f6
    have k0 := hc 0 (by omega)
    have k1 := hc 1 (by omega)
    have k2 := hc 2 (by omega)
    have k3 := hc 3 (by omega)
    have k4 := hc 4 (by omega)
    have k5 := hc 5 (by omega)
    have k6 := hc 6 (by omega)
    exact ⟨⟨nm, i1, i2, i3, i4, i5, i6⟩, k0, k1, k2, k3, k4, k5, k6, hn⟩
theorem driver_one (fuel : Nat) (cs : List Value) (y : DataW H × List MemPlace) (g o : Nat) (hl : cs.length = 2) (hc : ∀ i, i < 2 → W.cell? ⟨g, o + i, none⟩ = cs[i]?) (ht : DataW.trod enc Tryz.prog W 0 (fun _ => true) true fuel 58 cs = some y) (hz : Szd 58 y.1) : ∃ a, DrAt W g o a := by
  match cs, hl with
  | [v0, v1], _ =>
    obtain ⟨xs, n, _, hx, _, hxl, hf⟩ := DataW.trod_struct Tryz.underlying58 ht
    rw [hx] at hz
    have f0 : DataW.trod enc Tryz.prog W 0 (fun _ => true) true n 9 (List.take (Tryz.prog.cellsOf 9) [v0, v1]) = xs[0]? := hf 0 _ rfl
    have f1 : DataW.trod enc Tryz.prog W 0 (fun _ => true) true n 3 (List.take (Tryz.prog.cellsOf 3) [v1]) = xs[1]? := hf 1 _ rfl
    rw [cells_str] at f0
    rw [cells_int] at f1
    have hx0 : xs.length = 2 := hxl
    rw [some_at (show 0 < xs.length by omega)] at f0
    have z0 := hz.field Tryz.underlying58 (i := 0) rfl (some_at (show 0 < xs.length by omega))
    rw [some_at (show 1 < xs.length by omega)] at f1
    have z1 := hz.field Tryz.underlying58 (i := 1) rfl (some_at (show 1 < xs.length by omega))
    obtain ⟨nm, rfl, hn⟩ := str_trod f0 z0
    obtain ⟨i1, rfl⟩ := int_trod f1
    have k0 := hc 0 (by omega)
    have k1 := hc 1 (by omega)
    exact ⟨⟨nm, i1⟩, k0, k1, hn⟩
theorem link_trod {v0 v1 v2 v3 : Value} {fuel : Nat} {x : DataW H × List MemPlace} (ht : DataW.trod enc Tryz.prog W 0 (fun _ => true) true fuel 36 [v0, v1, v2, v3] = some x) (hz : Szd 36 x.1) :
    ∃ A n c B p d C q e L, v0 = strV L.name ∧ v1 = .slice A n c ∧ v2 = .slice B p d ∧ v3 = .slice C q e ∧ LkS reachBytes W A n c B p d C q e L := by
  obtain ⟨xs, n, _, hx, _, hxl, hf⟩ := DataW.trod_struct Tryz.underlying36 ht
  rw [hx] at hz
  have f0 : DataW.trod enc Tryz.prog W 0 (fun _ => true) true n 9 (List.take (Tryz.prog.cellsOf 9) [v0, v1, v2, v3]) = xs[0]? := hf 0 _ rfl
  have f1 : DataW.trod enc Tryz.prog W 0 (fun _ => true) true n 32 (List.take (Tryz.prog.cellsOf 32) [v1, v2, v3]) = xs[1]? := hf 1 _ rfl
  have f2 : DataW.trod enc Tryz.prog W 0 (fun _ => true) true n 33 (List.take (Tryz.prog.cellsOf 33) [v2, v3]) = xs[2]? := hf 2 _ rfl
  have f3 : DataW.trod enc Tryz.prog W 0 (fun _ => true) true n 34 (List.take (Tryz.prog.cellsOf 34) [v3]) = xs[3]? := hf 3 _ rfl
  have c1 : Tryz.prog.cellsOf 32 = 1 := by kernel_rfl
  have c2 : Tryz.prog.cellsOf 33 = 1 := by kernel_rfl
  have c3 : Tryz.prog.cellsOf 34 = 1 := by kernel_rfl
  rw [cells_str] at f0
  rw [c1] at f1
  rw [c2] at f2
  rw [c3] at f3
  have hx0 : xs.length = 4 := hxl
  rw [some_at (show 0 < xs.length by omega)] at f0
  have z0 := hz.field Tryz.underlying36 (i := 0) rfl (some_at (show 0 < xs.length by omega))
  rw [some_at (show 1 < xs.length by omega)] at f1
  have z1 := hz.field Tryz.underlying36 (i := 1) rfl (some_at (show 1 < xs.length by omega))
  rw [some_at (show 2 < xs.length by omega)] at f2
  have z2 := hz.field Tryz.underlying36 (i := 2) rfl (some_at (show 2 < xs.length by omega))
  rw [some_at (show 3 < xs.length by omega)] at f3
  have z3 := hz.field Tryz.underlying36 (i := 3) rfl (some_at (show 3 < xs.length by omega))
  obtain ⟨nm, rfl, hn⟩ := str_trod f0 z0
  obtain ⟨A, n1, c, l1, rfl, h1⟩ := sls_open (BdAt reachBytes) 2 Tryz.underlying32 (by kernel_rfl) (by decide) body_one f1 z1
  obtain ⟨B, p, d, l2, rfl, h2⟩ := sls_open JtAt 7 Tryz.underlying33 (by kernel_rfl) (by decide) joint_one f2 z2
  obtain ⟨C, q, e, l3, rfl, h3⟩ := sls_open DrAt 2 Tryz.underlying34 (by kernel_rfl) (by decide) driver_one f3 z3
  exact ⟨A, n1, c, B, p, d, C, q, e, ⟨nm, l1, l2, l3⟩, rfl, rfl, rfl, rfl, hn, h1, h2, h3⟩
variable {base : Nat}
theorem link_open {v : Value} {d : DataW H} {p : List MemPlace} (hok : Value.okWide Tryz.prog W .any base 36 v) (h : DataW.Trod enc Tryz.prog W 0 (fun _ => true) true 36 v d p) (hz : Szd 36 d) :
    ∃ A n c B p d C q e L, v = .agg #[strV L.name, .slice A n c, .slice B p d, .slice C q e] ∧ LkS reachBytes W A n c B p d C q e L := by
  obtain ⟨cs, rfl, hsz, _⟩ := cells_ok (ts := [9, 32, 33, 34]) Tryz.underlying36 (by kernel_rfl) (by kernel_rfl) hok
  obtain ⟨fuel, h⟩ := h
  obtain ⟨l⟩ := cs
  match l, hsz with
  | [v0, v1, v2, v3], _ =>
    obtain ⟨A, n, c, B, p, d, C, q, e, L, rfl, rfl, rfl, rfl, hk⟩ := link_trod h hz
    exact ⟨A, n, c, B, p, d, C, q, e, L, rfl, hk⟩
end
end Go.Proofs.YtoiijifnfdgfpaaGreatDoor

/- PrintReturns: the text of a linkage is read as the same linkage; for every input the law returns true. The listed library variables are tied to the program text. -/
namespace Go.Proofs.YtoiijifnfdgfpaaGreatDoor
open Go Go.RowKit Bn Go.ChangeShapes Go.WideShapes Go.ChangeAt
attribute [local go_sem ↓] Go.wp_at_zero Go.wp_at_succ
theorem returns_contract (H : Type) (enc : TypeId × Value → H) (W : World) (base : Nat) (args : Array Value) (ds gs : List (DataW H)) (before : List MemPlace)
    (hval0 : ∀ (j : Nat) t v, Tryz.f11.params[j]? = some t → args[j]? = some v → Value.okWide Tryz.prog W .any base t v)
    (hW : DataW.Whole enc Tryz.prog Tryz.f11.params.toList Rows.printReturnsSpec.vars false W args.toList ds gs before) (hL : laidMetH Tryz.prog Rows.printReturnsRow.laid W) (hwt : (DataW.weightsEach Tryz.prog (Tryz.f11.params.toList ++ (OpenSpec.ofChange Rows.printReturnsSpec).bare.plain.varTypes Tryz.prog) (ds ++ gs)).all (· ≤ reachBytes) = true) (hsh : W.ShapedOpen Tryz.prog) :
    Calls Tryz.prog 11 args W fun e W' => ∃ v, e = .returned v ∧ Rows.printReturnsSpec.post enc Tryz.prog Tryz.f11 false true false false W args v W' := by
  have hval : ∀ (j : Nat) t v, Tryz.f11.params[j]? = some t → args[j]? = some v → Value.okWide Tryz.prog W .any base t v := hval0
  have htab : Tab W := tab_of_laid hL
  have hmx : Mx W := mx_of_shaped hsh
  have hW' := hW
  obtain ⟨p, q, hA0, hV, rfl, hfz, hnd⟩ := hW
  have hA : DataW.TrodAll enc Tryz.prog W 0 (fun _ => true) true Tryz.f11.params.toList args.toList ds p := hA0
  rw [Tryz.params11] at hA hval
  obtain ⟨v0, d0, rfl, rfl, h0⟩ := trodAll_one hA
  obtain ⟨rfl, rfl⟩ := trodVars_none hV
  obtain ⟨A, n, c, B, p, d, C, q, e, L, rfl, H⟩ := link_open (hval 0 _ v0 rfl rfl) h0 (szd_of hwt (j := 0) rfl rfl)
  refine (l_PrintReturns W A n c B p d C q e L H htab hmx).mono fun e W' ⟨he, hb⟩ => ?_
  subst he
  exact ⟨_, rfl, law_post laid_out Tryz.underlying4 hW' rfl rfl (by kernel_rfl) rfl rfl rfl hb⟩
theorem returns_lifted (os : Os) (started : os.Started) (H : Type) (enc : TypeId × Value → H) (F : Stop.Interp) :
    ReturnsInHanded {} Tryz.checked os 11 .any ((OpenSpec.ofChange Rows.printReturnsSpec).preRow enc Tryz.prog Tryz.f11 Rows.printReturnsRow.domain false Rows.printReturnsRow.laid) (((OpenSpec.ofChange Rows.printReturnsSpec).at F).post enc Tryz.prog Tryz.f11 false true false false) := by
  have hx : DataW.whole enc Tryz.prog ((laidWorld os).forCall (fun _ _ => 0) ⟨#[], #[.agg #[.string ⟨#[]⟩, .slice none 0 0, .slice none 0 0, .slice none 0 0]], []⟩).memory Tryz.f11.params.toList Rows.printReturnsSpec.vars false (#[.agg #[.string ⟨#[]⟩, .slice none 0 0, .slice none 0 0, .slice none 0 0]] : Array Value).toList 8 = some ([.agg [.lit (.string []), .nil, .nil, .nil]], [], []) := by kernel_rfl
  have hl : laidMet Tryz.prog Rows.printReturnsRow.laid ((laidWorld os).forCall (fun _ _ => 0) ⟨#[], #[.agg #[.string ⟨#[]⟩, .slice none 0 0, .slice none 0 0, .slice none 0 0]], []⟩).memory := laidMet_of_run' 8 (by kernel_rfl) (by kernel_rfl)
  refine returnsInHanded_of_row (C := Tryz.checked) (s := OpenSpec.ofChange Rows.printReturnsSpec) own_knob started (by kernel_rfl) Tryz.func11
    (witness_row_at (enc := enc) (C := Tryz.checked) false (laidWorld os) #[.agg #[.string ⟨#[]⟩, .slice none 0 0, .slice none 0 0, .slice none 0 0]] rfl (by kernel_rfl) (by kernel_rfl) (by kernel_rfl)
      (OpenSpec.preRow_of_cond 8 hx (by kernel_rfl) (fun k hk => by cases hk) (by kernel_rfl) hl)) ?_
  intro W base args ds gs before hval hW _ _ hwt hL hsh _
  exact returns_contract H enc W base args ds gs before hval hW hL hwt hsh
theorem returns_j2 : (Rows.printReturnsRow.inPlace == Tryz.pinned.checked.prog.inPlace 11) = true := by kernel_rfl
theorem returns_j3 : (Rows.printReturnsRow.unfollowed == Tryz.pinned.checked.prog.unfollowed 11) = true := by kernel_rfl
theorem returns_j4 : (Rows.printReturnsRow.recurses == Tryz.pinned.checked.prog.recurses 11) = true := by kernel_rfl
theorem returns_j5 : (Rows.printReturnsRow.named == Tryz.pinned.checked.prog.varsNamed 11) = true := by kernel_rfl
theorem returns_joined : joinedFacts Tryz.pinned.checked.prog 11 Tryz.f11 (OpenSpec.ofChange Rows.printReturnsSpec).bare Rows.printReturnsRow = true := joined_parts (by kernel_rfl) returns_j2 returns_j3 returns_j4 returns_j5 (by kernel_rfl)
theorem returns_inst : Tryz.f11.isInstance Tryz.pinned.checked.prog Rows.printReturnsRow.origin Rows.printReturnsRow.targs := of_decide_eq_true (by kernel_rfl)
theorem returns_said : Rows.PrintReturnsSaid :=
  OpenClaim.holds_of_cond 11 Tryz.f11 rfl rfl rfl rfl rfl rfl rfl ⟨rfl, rfl, rfl, rfl, rfl⟩ rfl rfl rfl rfl rfl (by kernel_rfl) Tryz.func11 returns_joined
    returns_inst (by unfold Func.isWrapper; first | (rw [if_pos (by decide +kernel)]; kernel_rfl) | (rw [if_neg (by decide +kernel)]; exact ⟨rfl, rfl⟩))
    (fun os started H enc _ F => by rw [OpenClaim.pre_eq_preRow]; exact returns_lifted os started H enc F)
theorem returns_plain (f : FuncId) (fn : Func) (hf : Tryz.pinned.checked.prog.funcNamed "linkwork/linkworklaw21.PrintReturns" = some f) (hfn : Tryz.pinned.checked.prog.funcs[f]? = some fn) :
    true = Tryz.pinned.checked.prog.looks [] ∧ ∀ (j : Nat) t, fn.params[j]? = some t → Tryz.pinned.checked.prog.wantsStandIn t = false := by
  obtain rfl : f = 11 := Option.some.inj ((show Tryz.prog.funcNamed "linkwork/linkworklaw21.PrintReturns" = some 11 by kernel_rfl).symm.trans hf) |>.symm
  obtain rfl : fn = Tryz.f11 := (Option.some.inj (Tryz.func11.symm.trans hfn)).symm
  refine ⟨by kernel_rfl, fun j t ht => ?_⟩
  rw [Tryz.params11] at ht
  have hm : t ∈ [36] := by
    have := Array.mem_of_getElem? ht
    simp at this ⊢
    first
      | exact this
      | exact .inl this
  have hall : ([36].all fun u => !Tryz.prog.wantsStandIn u) = true := by kernel_rfl
  exact (show Tryz.prog.wantsStandIn t = false by simpa using List.all_eq_true.1 hall t hm)
theorem returns_holds : Rows.PrintReturnsCardSaid :=
  Claim7.holds_tied_plain_at .later [] _ _ _ _ returns_said (fun _ h => by cases h) (by kernel_rfl) (fun _ h => by cases h) printReturns_row_tie rfl ⟨rfl, rfl⟩ (by kernel_rfl) rfl returns_plain (by kernel_rfl)
end Go.Proofs.YtoiijifnfdgfpaaGreatDoor
