/- TurnMakes: for every input the law returns true. The listed library variables are tied to the program text. -/
import Derived.Deep.DeepHandedRow
import Derived.ChangeMaps5
import Derived.Test.YtianjkiakkclgaaGreatDoorMM5
set_option linter.unusedVariables false
set_option maxHeartbeats 8000000
set_option maxRecDepth 100000
namespace Go.Proofs.YtianjkiakkclgaaGreatDoor
open Go Go.RowKit Bn
attribute [local go_sem ↓] Go.wp_at_zero Go.wp_at_succ
theorem r_parse_ok6 (w : World) (l : List UInt8) (hl : l.length ≤ 65536) (hb : okZ l = true) : Calls Tryz.prog 72 #[strV l] w (RetIe w (.int .i64 0) (valZ l) 65536) :=
 (r_parse_ok w l hl hb).mono fun _ _ r => r.mono hl
theorem g_text_v (w : World) (b A n c D m e q k) (h : QZ w b A n c D m e q k) (X : List UInt8) (hX : ratText q = X) (h0 : 0 < k) (hk : k ≤ 40000000) : Calls Tryz.prog 73 #[.agg #[.bool b, .slice A n c, .slice D m e]] w (RetV w (strV X)) := by
 subst hX; exact g_text w b A n c D m e q k h h0 hk _ rfl
theorem g_parse_big (w : World) (s : List UInt8) (hl : 65536 < s.length) :
  Calls Tryz.prog 39 #[strV s] w (RetFe w (.int .i64 4) 0 1) := by
 have hszs := size_v s
 have hlen : ((65536 : Int) < (s.length : Int)) = True := by simp; omega
 go_enter Tryz.func39, Tryz.ntmps39
 go_wp2_with fail
 refine bodyPost_ret (v := .tuple #[.agg #[.bool false, .slice none 0 0, .slice none 0 0], .int .i64 4]) (by simp [results, Tryz.results39, go_sem, *] <;> trivial) rfl ?_
 exact ⟨_, _, _, _, _, _, _, rfl, QV.zero _ _, ((brefl w).alloc (by first | omega | (simp <;> omega)) (.cells #[.bool false, .slice none 0 0, .slice none 0 0] 24))⟩
theorem g_parse_dot (w : World) (s F B : List UInt8) (hl : s.length ≤ 65536) (hs : s = F ++ 46 :: B) (hF : ∀ c ∈ F, c ≠ 47 ∧ c ≠ 46) (x : Int) (q : Rat) (hx : (s.length ≤ 64 ∧ decOk F B = true ∧ x = 0 ∧ q = decQ F B) ∨ ((64 < s.length ∨ decOk F B = false) ∧ x = 2 ∧ q = 0)) :
    Calls Tryz.prog 39 #[strV s] w (RetFe w (.int .i64 x) q 64) := by
  have hFB : F.length + B.length + 1 = s.length := by rw [hs]; simp; omega
  have HX := Lib.hid hx
  clear hx
  have hszs := size_v s
  have hlen : ((65536 : Int) < (s.length : Int)) = False := by simp; omega
  have hFs : F.length < s.length := by rw [hs]; simp
  have hpre : ∀ (i : Nat) (hi : i < F.length) (hi2 : i < s.length), s[i] ≠ 47 ∧ s[i] ≠ 46 := fun i hi hi2 => by
    have e : s[i] = F[i] := by subst hs; exact List.getElem_append_left hi
    rw [e]; exact hF _ (List.getElem_mem _)
  have hat : ∀ h : F.length < s.length, s[F.length] = 46 := fun h => by subst hs; simp
  have e1 : (⟨s.toArray⟩ : ByteArray).extract 0 F.length = ⟨F.toArray⟩ := by rw [ext_v, hs]; simp
  have e2 : (⟨s.toArray⟩ : ByteArray).extract (F.length + 1) s.length = ⟨B.toArray⟩ := by
    rw [ext_v, hs]; simp; exact List.take_of_length_le (by omega)
  have hF6 : F.length ≤ 65536 := by omega
  have hB6 : B.length ≤ 65536 := by rw [hs] at hl; simp at hl; omega
  have HP := Lib.hid hpre
  have HA := Lib.hid hat
  clear hpre hat hF
  clear hs
  go_enter Tryz.func39, Tryz.ntmps39
  go_wp2_with fail
  have p1 := ((Kp.refl w).alloc (.cells #[.bool false, .slice none 0 0, .slice none 0 0] 24))
  have bw1 := ((brefl w).alloc (by first | omega | (simp <;> omega)) (.cells #[.bool false, .slice none 0 0, .slice none 0 0] 24))
  have x1a : Blk (w.alloc (.cells #[.bool false, .slice none 0 0, .slice none 0 0] 24)) w.heap.size 24 #[.bool false, .slice none 0 0, .slice none 0 0] := (blkAt _ _ _ (by simp))
  have lw1 : w.heap.size + 1 ≤ (w.alloc (.cells #[.bool false, .slice none 0 0, .slice none 0 0] 24)).heap.size := by simp
  generalize hE1 : (w.alloc (.cells #[.bool false, .slice none 0 0, .slice none 0 0] 24)) = w1 at p1 bw1 lw1 x1a ⊢
  clear hE1
  go_loopw [17] (fun iv wr => ∃ (i : Nat), iv = .int .i64 (i : Nat) ∧ i ≤ F.length ∧ Kp w1 wr ∧ Below w.heap.size w wr ∧ w1.heap.size ≤ wr.heap.size ∧ Blk wr w.heap.size 24 #[.bool false, .slice none 0 0, .slice none 0 0]) (fun iv _ => s.length - (intOf iv).toNat)
  case atStart => exact ⟨0, rfl, Nat.zero_le _, Kp.refl _, bw1, Nat.le_refl _, x1a⟩
  case round =>
    clear x1a
    obtain ⟨i, rfl, hi, hkp, hbw, hlw, x1a⟩ := hrel
    by_cases hlt : i < F.length
    · obtain ⟨d, hd⟩ : ∃ d, s[i]'(by omega) = d := ⟨_, rfl⟩
      have hget : ∀ h, (⟨s.toArray⟩ : ByteArray)[i]'h = d := fun h => hd
      have hne := HP.out i hlt (by omega)
      rw [hd] at hne
      obtain ⟨dn, hdn⟩ : ∃ dn, d.toNat = dn := ⟨_, rfl⟩
      have h47 : ((dn : Int) == 47) = false := by simp; intro e; exact hne.1 (UInt8.toNat.inj (by rw [hdn]; show dn = 47; omega))
      have h46 : ((dn : Int) == 46) = false := by simp; intro e; exact hne.2 (UInt8.toNat.inj (by rw [hdn]; show dn = 46; omega))
      have hlts : i < s.length := by omega
      clear hd hne
      go_wp2_with fail
      go_roundw
      case rel => exact ⟨i + 1, by go_num, by omega, hkp, hbw, by omega, x1a⟩
      case measure => simp [intOf]; omega
    · have hiF : i = F.length := by omega
      subst hiF
      have hget : ∀ h, (⟨s.toArray⟩ : ByteArray)[F.length]'h = 46 := fun h => HA.out h
      have hw1 : IntKind.i64.wrap ((F.length : Int) + 1) = (F.length : Int) + 1 := IntWalk.i64_in _ ⟨by omega, by omega⟩
      have hi0 : (0 : Int) ≤ (F.length : Int) := by omega
      have hiL : (F.length : Int) ≤ (s.length : Int) := by omega
      have hiL2 : (F.length : Int) + 1 ≤ (s.length : Int) := by omega
      have hi1 : (0 : Int) ≤ (F.length : Int) + 1 := by omega
      have et : ((F.length : Int) + 1).toNat = F.length + 1 := by omega
      clear hi hlt
      obtain ⟨cx1aa, cx1ab, cx1ac⟩ := x1a.c3
      obtain ⟨fx1aa, fx1ab, fx1ac⟩ := x1a.f3
      have lx1a := lts0 x1a.lt
      go_wp2_with fail
      go_region_held3 (fun w' => SeesX wr.heap.size (w.heap.size) wr w') (first | with_reducible exact SeesX.of (Nat.le_refl _) (by assumption) | with_reducible exact SeesX.of (Nat.le_refl _) (brefl _).drew | with_reducible exact (SeesX.set (SeesX.set (SeesX.set (SeesX.of (Nat.le_refl _) (by assumption))))) | with_reducible exact (SeesX.set (SeesX.set (SeesX.of (Nat.le_refl _) (by assumption)))) | with_reducible exact (SeesX.set (SeesX.of (Nat.le_refl _) (by assumption))) | exact SeesX.of (Nat.le_refl _) (below_drewN (brefl _) 1) | exact SeesX.of (Nat.le_refl _) (below_drewN (by assumption) _))
        (first
          | (go_at_call 74; (with_reducible refine (g_dec_o _ (F) (B) s.length hFB hl x q HX.out).mono ?_); rintro e w2 ⟨b2, A2, n2, c2, A'2, n'2, c'2, rfl, h2, hb2⟩; replace hb2 := bnext (below_drewN (brefl _) 1) hb2; have q2 : Below wr.heap.size wr w2 := bnext (brefl wr) hb2; have x1a := x1a.b q2; obtain ⟨cx1aa, cx1ab, cx1ac⟩ := x1a.c3; obtain ⟨fx1aa, fx1ab, fx1ac⟩ := x1a.f3))
      have bw2 := hbw.trans (q2.mono hbw.size)
      clear cx1aa fx1aa cx1ab fx1ab cx1ac fx1ac lx1a
      have lw2 := q2.size
      obtain ⟨cx1aa, cx1ab, cx1ac⟩ := x1a.c3
      obtain ⟨fx1aa, fx1ab, fx1ac⟩ := x1a.f3
      go_wp2_with fail
      refine bodyPost_ret (v := .tuple #[.agg #[.bool b2, .slice A2 n2 c2, .slice A'2 n'2 c'2], .int .i64 x]) (by simp [results, Tryz.results39, go_sem, *] <;> trivial) rfl ?_
      exact ⟨_, _, _, _, _, _, _, rfl, (h2).keep ((((Kp.refl w2).sb w.heap.size 0 x1a.box (by decide) (.bool b2)).sb w.heap.size 1 (x1a.box.set ⟨w.heap.size, 0, none⟩ (.bool b2)) (by decide) (.slice A2 n2 c2)).sb w.heap.size 2 ((x1a.box.set ⟨w.heap.size, 0, none⟩ (.bool b2)).set ⟨w.heap.size, 1, none⟩ (.slice A2 n2 c2)) (by decide) (.slice A'2 n'2 c'2)), (((bw2.sc w.heap.size 0 (by omega) (.bool b2)).sc w.heap.size 1 (by omega) (.slice A2 n2 c2)).sc w.heap.size 2 (by omega) (.slice A'2 n'2 c'2))⟩
theorem g_parse_s1 (w : World) (s F B : List UInt8) (hl : s.length ≤ 65536) (hs : s = F ++ 47 :: B) (hF : ∀ c ∈ F, c ≠ 47 ∧ c ≠ 46) (h1 : okZ F = false) :
  Calls Tryz.prog 39 #[strV s] w (RetFe w (.int .i64 2) 0 1) := by
 have H1 := Lib.hid h1
 clear h1
 obtain ⟨x2, z2, hp2⟩ := parseOut B
 have HP2 := Lib.hid hp2
 clear hp2
 have hszs := size_v s
 have hlen : ((65536 : Int) < (s.length : Int)) = False := by simp; omega
 have hFs : F.length < s.length := by rw [hs]; simp
 have hpre : ∀ (i : Nat) (hi : i < F.length) (hi2 : i < s.length), s[i] ≠ 47 ∧ s[i] ≠ 46 := fun i hi hi2 => by
  have e : s[i] = F[i] := by subst hs; exact List.getElem_append_left hi
  rw [e]; exact hF _ (List.getElem_mem _)
 have hat : ∀ h : F.length < s.length, s[F.length] = 47 := fun h => by subst hs; simp
 have e1 : (⟨s.toArray⟩ : ByteArray).extract 0 F.length = ⟨F.toArray⟩ := by rw [ext_v, hs]; simp
 have e2 : (⟨s.toArray⟩ : ByteArray).extract (F.length + 1) s.length = ⟨B.toArray⟩ := by
  rw [ext_v, hs]; simp; exact List.take_of_length_le (by omega)
 have hF6 : F.length ≤ 65536 := by omega
 have hB6 : B.length ≤ 65536 := by rw [hs] at hl; simp at hl; omega
 have HP := Lib.hid hpre
 have HA := Lib.hid hat
 clear hpre hat hF
 clear hs
 go_enter Tryz.func39, Tryz.ntmps39
 go_wp2_with fail
 have p1 := ((Kp.refl w).alloc (.cells #[.bool false, .slice none 0 0, .slice none 0 0] 24))
 have bw1 := ((brefl w).alloc (by first | omega | (simp <;> omega)) (.cells #[.bool false, .slice none 0 0, .slice none 0 0] 24))
 have x1a : Blk (w.alloc (.cells #[.bool false, .slice none 0 0, .slice none 0 0] 24)) w.heap.size 24 #[.bool false, .slice none 0 0, .slice none 0 0] := (blkAt _ _ _ (by simp))
 have lw1 : w.heap.size + 1 ≤ (w.alloc (.cells #[.bool false, .slice none 0 0, .slice none 0 0] 24)).heap.size := by simp
 generalize hE1 : (w.alloc (.cells #[.bool false, .slice none 0 0, .slice none 0 0] 24)) = w1 at p1 bw1 lw1 x1a ⊢
 clear hE1
 go_loopw [17] (fun iv wr => ∃ (i : Nat), iv = .int .i64 (i : Nat) ∧ i ≤ F.length ∧ Kp w1 wr ∧ Below w.heap.size w wr ∧ w1.heap.size ≤ wr.heap.size ∧ Blk wr w.heap.size 24 #[.bool false, .slice none 0 0, .slice none 0 0]) (fun iv _ => s.length - (intOf iv).toNat)
 case atStart => exact ⟨0, rfl, Nat.zero_le _, Kp.refl _, bw1, Nat.le_refl _, x1a⟩
 case round =>
  clear x1a
  obtain ⟨i, rfl, hi, hkp, hbw, hlw, x1a⟩ := hrel
  by_cases hlt : i < F.length
  ·obtain ⟨d, hd⟩ : ∃ d, s[i]'(by omega) = d := ⟨_, rfl⟩
   have hget : ∀ h, (⟨s.toArray⟩ : ByteArray)[i]'h = d := fun h => hd
   have hne := HP.out i hlt (by omega)
   rw [hd] at hne
   obtain ⟨dn, hdn⟩ : ∃ dn, d.toNat = dn := ⟨_, rfl⟩
   have h47 : ((dn : Int) == 47) = false := by simp; intro e; exact hne.1 (UInt8.toNat.inj (by rw [hdn]; show dn = 47; omega))
   have h46 : ((dn : Int) == 46) = false := by simp; intro e; exact hne.2 (UInt8.toNat.inj (by rw [hdn]; show dn = 46; omega))
   have hlts : i < s.length := by omega
   clear hd hne
   go_wp2_with fail
   go_roundw
   case rel => exact ⟨i + 1, by go_num, by omega, hkp, hbw, by omega, x1a⟩
   case measure => simp [intOf]; omega
  ·have hiF : i = F.length := by omega
   subst hiF
   have hget : ∀ h, (⟨s.toArray⟩ : ByteArray)[F.length]'h = 47 := fun h => HA.out h
   have hw1 : IntKind.i64.wrap ((F.length : Int) + 1) = (F.length : Int) + 1 := IntWalk.i64_in _ ⟨by omega, by omega⟩
   have hi0 : (0 : Int) ≤ (F.length : Int) := by omega
   have hiL : (F.length : Int) ≤ (s.length : Int) := by omega
   have hiL2 : (F.length : Int) + 1 ≤ (s.length : Int) := by omega
   have hi1 : (0 : Int) ≤ (F.length : Int) + 1 := by omega
   have et : ((F.length : Int) + 1).toNat = F.length + 1 := by omega
   clear hi hlt
   go_wp2_with fail
   (with_reducible refine (r_parse_bad _ (F) (by omega) H1.out).mono ?_); rintro e w2 ⟨b2, A2, n2, c2, rfl, h2, q2⟩
   replace x1a := x1a.b q2
   have bw2 := hbw.trans (q2.mono hbw.size)
   have lw2 := q2.size
   clear q2
   go_wp2_with fail
   (with_reducible refine (r01_parse_o _ (B) x2 z2 HP2.out).mono ?_); rintro e w3 ⟨b3, A3, n3, c3, rfl, h3, hb3⟩
   have q3 := hb3.q1
   replace h2 := h2.belw q3
   replace x1a := x1a.b q3
   have x3a : Blk w3 w2.heap.size 77 #[.bool b2, .slice A2 n2 c2] := (blkAt _ _ _ (by simp)).below hb3 (by simp)
   have bw3 := bw2.trans (q3.mono bw2.size)
   have lw3 := hb3.l1
   clear q3 bw2
   have cx1a := x1a.c3
   have fx1a := x1a.f3
   have lx1a := lts0 x1a.lt
   go_wp2_with fail
   refine bodyPost_ret (v := .tuple #[.agg #[.bool false, .slice none 0 0, .slice none 0 0], .int .i64 2]) (by simp [results, Tryz.results39, go_sem, *] <;> trivial) rfl ?_
   exact ⟨_, _, _, _, _, _, _, rfl, QV.zero _ _, ((((bw3.sc w.heap.size 0 (by omega) (.bool false)).sc w.heap.size 1 (by omega) (.slice none 0 0)).sc w.heap.size 2 (by omega) (.slice none 0 0)).alloc (by first | omega | (simp <;> omega)) (.cells #[.bool b3, .slice A3 n3 c3] 77))⟩
theorem g_parse_s2 (w : World) (s F B : List UInt8) (hl : s.length ≤ 65536) (hs : s = F ++ 47 :: B) (hF : ∀ c ∈ F, c ≠ 47 ∧ c ≠ 46) (h1 : okZ F = true) (h2 : okZ B = false) :
  Calls Tryz.prog 39 #[strV s] w (RetFe w (.int .i64 2) 0 1) := by
 have H1 := Lib.hid h1
 clear h1
 have H2 := Lib.hid h2
 clear h2
 have hszs := size_v s
 have hlen : ((65536 : Int) < (s.length : Int)) = False := by simp; omega
 have hFs : F.length < s.length := by rw [hs]; simp
 have hpre : ∀ (i : Nat) (hi : i < F.length) (hi2 : i < s.length), s[i] ≠ 47 ∧ s[i] ≠ 46 := fun i hi hi2 => by
  have e : s[i] = F[i] := by subst hs; exact List.getElem_append_left hi
  rw [e]; exact hF _ (List.getElem_mem _)
 have hat : ∀ h : F.length < s.length, s[F.length] = 47 := fun h => by subst hs; simp
 have e1 : (⟨s.toArray⟩ : ByteArray).extract 0 F.length = ⟨F.toArray⟩ := by rw [ext_v, hs]; simp
 have e2 : (⟨s.toArray⟩ : ByteArray).extract (F.length + 1) s.length = ⟨B.toArray⟩ := by
  rw [ext_v, hs]; simp; exact List.take_of_length_le (by omega)
 have hF6 : F.length ≤ 65536 := by omega
 have hB6 : B.length ≤ 65536 := by rw [hs] at hl; simp at hl; omega
 have HP := Lib.hid hpre
 have HA := Lib.hid hat
 clear hpre hat hF
 clear hs
 go_enter Tryz.func39, Tryz.ntmps39
 go_wp2_with fail
 have p1 := ((Kp.refl w).alloc (.cells #[.bool false, .slice none 0 0, .slice none 0 0] 24))
 have bw1 := ((brefl w).alloc (by first | omega | (simp <;> omega)) (.cells #[.bool false, .slice none 0 0, .slice none 0 0] 24))
 have x1a : Blk (w.alloc (.cells #[.bool false, .slice none 0 0, .slice none 0 0] 24)) w.heap.size 24 #[.bool false, .slice none 0 0, .slice none 0 0] := (blkAt _ _ _ (by simp))
 have lw1 : w.heap.size + 1 ≤ (w.alloc (.cells #[.bool false, .slice none 0 0, .slice none 0 0] 24)).heap.size := by simp
 generalize hE1 : (w.alloc (.cells #[.bool false, .slice none 0 0, .slice none 0 0] 24)) = w1 at p1 bw1 lw1 x1a ⊢
 clear hE1
 go_loopw [17] (fun iv wr => ∃ (i : Nat), iv = .int .i64 (i : Nat) ∧ i ≤ F.length ∧ Kp w1 wr ∧ Below w.heap.size w wr ∧ w1.heap.size ≤ wr.heap.size ∧ Blk wr w.heap.size 24 #[.bool false, .slice none 0 0, .slice none 0 0]) (fun iv _ => s.length - (intOf iv).toNat)
 case atStart => exact ⟨0, rfl, Nat.zero_le _, Kp.refl _, bw1, Nat.le_refl _, x1a⟩
 case round =>
  clear x1a
  obtain ⟨i, rfl, hi, hkp, hbw, hlw, x1a⟩ := hrel
  by_cases hlt : i < F.length
  ·obtain ⟨d, hd⟩ : ∃ d, s[i]'(by omega) = d := ⟨_, rfl⟩
   have hget : ∀ h, (⟨s.toArray⟩ : ByteArray)[i]'h = d := fun h => hd
   have hne := HP.out i hlt (by omega)
   rw [hd] at hne
   obtain ⟨dn, hdn⟩ : ∃ dn, d.toNat = dn := ⟨_, rfl⟩
   have h47 : ((dn : Int) == 47) = false := by simp; intro e; exact hne.1 (UInt8.toNat.inj (by rw [hdn]; show dn = 47; omega))
   have h46 : ((dn : Int) == 46) = false := by simp; intro e; exact hne.2 (UInt8.toNat.inj (by rw [hdn]; show dn = 46; omega))
   have hlts : i < s.length := by omega
   clear hd hne
   go_wp2_with fail
   go_roundw
   case rel => exact ⟨i + 1, by go_num, by omega, hkp, hbw, by omega, x1a⟩
   case measure => simp [intOf]; omega
  ·have hiF : i = F.length := by omega
   subst hiF
   have hget : ∀ h, (⟨s.toArray⟩ : ByteArray)[F.length]'h = 47 := fun h => HA.out h
   have hw1 : IntKind.i64.wrap ((F.length : Int) + 1) = (F.length : Int) + 1 := IntWalk.i64_in _ ⟨by omega, by omega⟩
   have hi0 : (0 : Int) ≤ (F.length : Int) := by omega
   have hiL : (F.length : Int) ≤ (s.length : Int) := by omega
   have hiL2 : (F.length : Int) + 1 ≤ (s.length : Int) := by omega
   have hi1 : (0 : Int) ≤ (F.length : Int) + 1 := by omega
   have et : ((F.length : Int) + 1).toNat = F.length + 1 := by omega
   clear hi hlt
   go_wp2_with fail
   (with_reducible refine (r_parse_ok6 _ (F) (by omega) H1.out).mono ?_); rintro e w2 ⟨b2, A2, n2, c2, rfl, h2, q2⟩
   replace x1a := x1a.b q2
   have bw2 := hbw.trans (q2.mono hbw.size)
   have lw2 := q2.size
   clear q2
   go_wp2_with fail
   (with_reducible refine (r_parse_bad _ (B) (by omega) H2.out).mono ?_); rintro e w3 ⟨b3, A3, n3, c3, rfl, h3, hb3⟩
   have q3 := hb3.q1
   replace h2 := h2.belw q3
   replace x1a := x1a.b q3
   have x3a : Blk w3 w2.heap.size 77 #[.bool b2, .slice A2 n2 c2] := (blkAt _ _ _ (by simp)).below hb3 (by simp)
   have bw3 := bw2.trans (q3.mono bw2.size)
   have lw3 := hb3.l1
   clear q3 bw2
   have cx1a := x1a.c3
   have fx1a := x1a.f3
   have lx1a := lts0 x1a.lt
   go_wp2_with fail
   refine bodyPost_ret (v := .tuple #[.agg #[.bool false, .slice none 0 0, .slice none 0 0], .int .i64 2]) (by simp [results, Tryz.results39, go_sem, *] <;> trivial) rfl ?_
   exact ⟨_, _, _, _, _, _, _, rfl, QV.zero _ _, ((((bw3.sc w.heap.size 0 (by omega) (.bool false)).sc w.heap.size 1 (by omega) (.slice none 0 0)).sc w.heap.size 2 (by omega) (.slice none 0 0)).alloc (by first | omega | (simp <;> omega)) (.cells #[.bool b3, .slice A3 n3 c3] 77))⟩
theorem g_parse_s3 (w : World) (s F B : List UInt8) (hl : s.length ≤ 65536) (hs : s = F ++ 47 :: B) (hF : ∀ c ∈ F, c ≠ 47 ∧ c ≠ 46) (h1 : okZ F = true) (h2 : okZ B = true) (h3 : (valZ B).sign ≤ 0) :
  Calls Tryz.prog 39 #[strV s] w (RetFe w (.int .i64 2) 0 1) := by
 have H1 := Lib.hid h1
 clear h1
 have H2 := Lib.hid h2
 clear h2
 obtain ⟨t, ht⟩ : ∃ t, (valZ B).sign = t := ⟨_, rfl⟩
 have et : (t ≤ 0) = True := by simp; rw [← ht]; exact h3
 have HT := Lib.hid ht
 clear h3 ht
 have hszs := size_v s
 have hlen : ((65536 : Int) < (s.length : Int)) = False := by simp; omega
 have hFs : F.length < s.length := by rw [hs]; simp
 have hpre : ∀ (i : Nat) (hi : i < F.length) (hi2 : i < s.length), s[i] ≠ 47 ∧ s[i] ≠ 46 := fun i hi hi2 => by
  have e : s[i] = F[i] := by subst hs; exact List.getElem_append_left hi
  rw [e]; exact hF _ (List.getElem_mem _)
 have hat : ∀ h : F.length < s.length, s[F.length] = 47 := fun h => by subst hs; simp
 have e1 : (⟨s.toArray⟩ : ByteArray).extract 0 F.length = ⟨F.toArray⟩ := by rw [ext_v, hs]; simp
 have e2 : (⟨s.toArray⟩ : ByteArray).extract (F.length + 1) s.length = ⟨B.toArray⟩ := by
  rw [ext_v, hs]; simp; exact List.take_of_length_le (by omega)
 have hF6 : F.length ≤ 65536 := by omega
 have hB6 : B.length ≤ 65536 := by rw [hs] at hl; simp at hl; omega
 have HP := Lib.hid hpre
 have HA := Lib.hid hat
 clear hpre hat hF
 clear hs
 go_enter Tryz.func39, Tryz.ntmps39
 go_wp2_with fail
 have p1 := ((Kp.refl w).alloc (.cells #[.bool false, .slice none 0 0, .slice none 0 0] 24))
 have bw1 := ((brefl w).alloc (by first | omega | (simp <;> omega)) (.cells #[.bool false, .slice none 0 0, .slice none 0 0] 24))
 have x1a : Blk (w.alloc (.cells #[.bool false, .slice none 0 0, .slice none 0 0] 24)) w.heap.size 24 #[.bool false, .slice none 0 0, .slice none 0 0] := (blkAt _ _ _ (by simp))
 have lw1 : w.heap.size + 1 ≤ (w.alloc (.cells #[.bool false, .slice none 0 0, .slice none 0 0] 24)).heap.size := by simp
 generalize hE1 : (w.alloc (.cells #[.bool false, .slice none 0 0, .slice none 0 0] 24)) = w1 at p1 bw1 lw1 x1a ⊢
 clear hE1
 go_loopw [17] (fun iv wr => ∃ (i : Nat), iv = .int .i64 (i : Nat) ∧ i ≤ F.length ∧ Kp w1 wr ∧ Below w.heap.size w wr ∧ w1.heap.size ≤ wr.heap.size ∧ Blk wr w.heap.size 24 #[.bool false, .slice none 0 0, .slice none 0 0]) (fun iv _ => s.length - (intOf iv).toNat)
 case atStart => exact ⟨0, rfl, Nat.zero_le _, Kp.refl _, bw1, Nat.le_refl _, x1a⟩
 case round =>
  clear x1a
  obtain ⟨i, rfl, hi, hkp, hbw, hlw, x1a⟩ := hrel
  by_cases hlt : i < F.length
  ·obtain ⟨d, hd⟩ : ∃ d, s[i]'(by omega) = d := ⟨_, rfl⟩
   have hget : ∀ h, (⟨s.toArray⟩ : ByteArray)[i]'h = d := fun h => hd
   have hne := HP.out i hlt (by omega)
   rw [hd] at hne
   obtain ⟨dn, hdn⟩ : ∃ dn, d.toNat = dn := ⟨_, rfl⟩
   have h47 : ((dn : Int) == 47) = false := by simp; intro e; exact hne.1 (UInt8.toNat.inj (by rw [hdn]; show dn = 47; omega))
   have h46 : ((dn : Int) == 46) = false := by simp; intro e; exact hne.2 (UInt8.toNat.inj (by rw [hdn]; show dn = 46; omega))
   have hlts : i < s.length := by omega
   clear hd hne
   go_wp2_with fail
   go_roundw
   case rel => exact ⟨i + 1, by go_num, by omega, hkp, hbw, by omega, x1a⟩
   case measure => simp [intOf]; omega
  ·have hiF : i = F.length := by omega
   subst hiF
   have hget : ∀ h, (⟨s.toArray⟩ : ByteArray)[F.length]'h = 47 := fun h => HA.out h
   have hw1 : IntKind.i64.wrap ((F.length : Int) + 1) = (F.length : Int) + 1 := IntWalk.i64_in _ ⟨by omega, by omega⟩
   have hi0 : (0 : Int) ≤ (F.length : Int) := by omega
   have hiL : (F.length : Int) ≤ (s.length : Int) := by omega
   have hiL2 : (F.length : Int) + 1 ≤ (s.length : Int) := by omega
   have hi1 : (0 : Int) ≤ (F.length : Int) + 1 := by omega
   have et : ((F.length : Int) + 1).toNat = F.length + 1 := by omega
   clear hi hlt
   go_wp2_with fail
   (with_reducible refine (r_parse_ok6 _ (F) (by omega) H1.out).mono ?_); rintro e w2 ⟨b2, A2, n2, c2, rfl, h2, q2⟩
   replace x1a := x1a.b q2
   have bw2 := hbw.trans (q2.mono hbw.size)
   have lw2 := q2.size
   clear q2
   go_wp2_with fail
   (with_reducible refine (r_parse_ok6 _ (B) (by omega) H2.out).mono ?_); rintro e w3 ⟨b3, A3, n3, c3, rfl, h3, hb3⟩
   have q3 := hb3.q1
   replace h2 := h2.belw q3
   replace x1a := x1a.b q3
   have x3a : Blk w3 w2.heap.size 77 #[.bool b2, .slice A2 n2 c2] := (blkAt _ _ _ (by simp)).below hb3 (by simp)
   have bw3 := bw2.trans (q3.mono bw2.size)
   have lw3 := hb3.l1
   clear q3 bw2
   go_wp2_with fail
   (with_reducible refine (r01_sign_e _ b3 A3 n3 c3 (valZ B) (65536) ?_ (t) ?_ ?_).mono ?_); (exact (h3.belw ((Below.refl _ _).alloc (Nat.le_refl _) _)).iz); (exact HT.out); omega; rintro e w4 ⟨rfl, hb4⟩
   have q4 := hb4.q1
   replace h2 := h2.belw q4
   replace h3 := h3.belw q4
   replace x1a := x1a.b q4
   replace x3a := x3a.b q4
   have x4a : Blk w4 w3.heap.size 77 #[.bool b3, .slice A3 n3 c3] := (blkAt _ _ _ (by simp)).below hb4 (by simp)
   have bw4 := bw3.trans (q4.mono bw3.size)
   have lw4 := hb4.l1
   clear q4 bw3
   have cx1a := x1a.c3
   have fx1a := x1a.f3
   have lx1a := lts0 x1a.lt
   go_wp2_with fail
   refine bodyPost_ret (v := .tuple #[.agg #[.bool false, .slice none 0 0, .slice none 0 0], .int .i64 2]) (by simp [results, Tryz.results39, go_sem, *] <;> trivial) rfl ?_
   exact ⟨_, _, _, _, _, _, _, rfl, QV.zero _ _, (((bw4.sc w.heap.size 0 (by omega) (.bool false)).sc w.heap.size 1 (by omega) (.slice none 0 0)).sc w.heap.size 2 (by omega) (.slice none 0 0))⟩
theorem g_parse_s4 (w : World) (s F B : List UInt8) (hl : s.length ≤ 65536) (hs : s = F ++ 47 :: B) (hF : ∀ c ∈ F, c ≠ 47 ∧ c ≠ 46) (h1 : okZ F = true) (h2 : okZ B = true) (h3 : (valZ B).sign = 1) (h4 : ratText (Rat.divInt (valZ F) (valZ B)) ≠ s) :
  Calls Tryz.prog 39 #[strV s] w (RetFe w (.int .i64 2) 0 1) := by
 have HNE := Lib.hid (show valZ B ≠ 0 by intro e; rw [e] at h3; cases h3)
 have HS := Lib.hid (Sz_divInt (valZ_lt2 h1 (show F.length ≤ 65536 by rw [hs] at hl; simp at hl; omega)) (valZ_lt2 h2 (show B.length ≤ 65536 by rw [hs] at hl; simp at hl; omega)) (by decide))
 have H1 := Lib.hid h1
 clear h1
 have H2 := Lib.hid h2
 clear h2
 have H3 := Lib.hid h3
 clear h3
 obtain ⟨X, hX⟩ : ∃ X, ratText (Rat.divInt (valZ F) (valZ B)) = X := ⟨_, rfl⟩
 rw [hX] at h4
 have HX := Lib.hid hX
 have htls := toList_v s
 have htlX := toList_v X
 have hXs : (X == s) = false := by simp; exact h4
 clear hX
 have hszs := size_v s
 have hlen : ((65536 : Int) < (s.length : Int)) = False := by simp; omega
 have hFs : F.length < s.length := by rw [hs]; simp
 have hpre : ∀ (i : Nat) (hi : i < F.length) (hi2 : i < s.length), s[i] ≠ 47 ∧ s[i] ≠ 46 := fun i hi hi2 => by
  have e : s[i] = F[i] := by subst hs; exact List.getElem_append_left hi
  rw [e]; exact hF _ (List.getElem_mem _)
 have hat : ∀ h : F.length < s.length, s[F.length] = 47 := fun h => by subst hs; simp
 have e1 : (⟨s.toArray⟩ : ByteArray).extract 0 F.length = ⟨F.toArray⟩ := by rw [ext_v, hs]; simp
 have e2 : (⟨s.toArray⟩ : ByteArray).extract (F.length + 1) s.length = ⟨B.toArray⟩ := by
  rw [ext_v, hs]; simp; exact List.take_of_length_le (by omega)
 have hF6 : F.length ≤ 65536 := by omega
 have hB6 : B.length ≤ 65536 := by rw [hs] at hl; simp at hl; omega
 have HP := Lib.hid hpre
 have HA := Lib.hid hat
 clear hpre hat hF
 clear hs
 go_enter Tryz.func39, Tryz.ntmps39
 go_wp2_with fail
 have p1 := ((Kp.refl w).alloc (.cells #[.bool false, .slice none 0 0, .slice none 0 0] 24))
 have bw1 := ((brefl w).alloc (by first | omega | (simp <;> omega)) (.cells #[.bool false, .slice none 0 0, .slice none 0 0] 24))
 have x1a : Blk (w.alloc (.cells #[.bool false, .slice none 0 0, .slice none 0 0] 24)) w.heap.size 24 #[.bool false, .slice none 0 0, .slice none 0 0] := (blkAt _ _ _ (by simp))
 have lw1 : w.heap.size + 1 ≤ (w.alloc (.cells #[.bool false, .slice none 0 0, .slice none 0 0] 24)).heap.size := by simp
 generalize hE1 : (w.alloc (.cells #[.bool false, .slice none 0 0, .slice none 0 0] 24)) = w1 at p1 bw1 lw1 x1a ⊢
 clear hE1
 go_loopw [17] (fun iv wr => ∃ (i : Nat), iv = .int .i64 (i : Nat) ∧ i ≤ F.length ∧ Kp w1 wr ∧ Below w.heap.size w wr ∧ w1.heap.size ≤ wr.heap.size ∧ Blk wr w.heap.size 24 #[.bool false, .slice none 0 0, .slice none 0 0]) (fun iv _ => s.length - (intOf iv).toNat)
 case atStart => exact ⟨0, rfl, Nat.zero_le _, Kp.refl _, bw1, Nat.le_refl _, x1a⟩
 case round =>
  clear x1a
  obtain ⟨i, rfl, hi, hkp, hbw, hlw, x1a⟩ := hrel
  by_cases hlt : i < F.length
  ·obtain ⟨d, hd⟩ : ∃ d, s[i]'(by omega) = d := ⟨_, rfl⟩
   have hget : ∀ h, (⟨s.toArray⟩ : ByteArray)[i]'h = d := fun h => hd
   have hne := HP.out i hlt (by omega)
   rw [hd] at hne
   obtain ⟨dn, hdn⟩ : ∃ dn, d.toNat = dn := ⟨_, rfl⟩
   have h47 : ((dn : Int) == 47) = false := by simp; intro e; exact hne.1 (UInt8.toNat.inj (by rw [hdn]; show dn = 47; omega))
   have h46 : ((dn : Int) == 46) = false := by simp; intro e; exact hne.2 (UInt8.toNat.inj (by rw [hdn]; show dn = 46; omega))
   have hlts : i < s.length := by omega
   clear hd hne
   go_wp2_with fail
   go_roundw
   case rel => exact ⟨i + 1, by go_num, by omega, hkp, hbw, by omega, x1a⟩
   case measure => simp [intOf]; omega
  ·have hiF : i = F.length := by omega
   subst hiF
   have hget : ∀ h, (⟨s.toArray⟩ : ByteArray)[F.length]'h = 47 := fun h => HA.out h
   have hw1 : IntKind.i64.wrap ((F.length : Int) + 1) = (F.length : Int) + 1 := IntWalk.i64_in _ ⟨by omega, by omega⟩
   have hi0 : (0 : Int) ≤ (F.length : Int) := by omega
   have hiL : (F.length : Int) ≤ (s.length : Int) := by omega
   have hiL2 : (F.length : Int) + 1 ≤ (s.length : Int) := by omega
   have hi1 : (0 : Int) ≤ (F.length : Int) + 1 := by omega
   have et : ((F.length : Int) + 1).toNat = F.length + 1 := by omega
   clear hi hlt
   go_wp2_with fail
   (with_reducible refine (r_parse_ok6 _ (F) (by omega) H1.out).mono ?_); rintro e w2 ⟨b2, A2, n2, c2, rfl, h2, q2⟩
   replace x1a := x1a.b q2
   have bw2 := hbw.trans (q2.mono hbw.size)
   have lw2 := q2.size
   clear q2
   go_wp2_with fail
   (with_reducible refine (r_parse_ok6 _ (B) (by omega) H2.out).mono ?_); rintro e w3 ⟨b3, A3, n3, c3, rfl, h3, hb3⟩
   have q3 := hb3.q1
   replace h2 := h2.belw q3
   replace x1a := x1a.b q3
   have x3a : Blk w3 w2.heap.size 77 #[.bool b2, .slice A2 n2 c2] := (blkAt _ _ _ (by simp)).below hb3 (by simp)
   have bw3 := bw2.trans (q3.mono bw2.size)
   have lw3 := hb3.l1
   clear q3 bw2
   go_wp2_with fail
   (with_reducible refine (r01_sign_e _ b3 A3 n3 c3 (valZ B) (65536) ?_ (1) ?_ ?_).mono ?_); (exact (h3.belw ((Below.refl _ _).alloc (Nat.le_refl _) _)).iz); (exact H3.out); omega; rintro e w4 ⟨rfl, hb4⟩
   have q4 := hb4.q1
   replace h2 := h2.belw q4
   replace h3 := h3.belw q4
   replace x1a := x1a.b q4
   replace x3a := x3a.b q4
   have x4a : Blk w4 w3.heap.size 77 #[.bool b3, .slice A3 n3 c3] := (blkAt _ _ _ (by simp)).below hb4 (by simp)
   have bw4 := bw3.trans (q4.mono bw3.size)
   have lw4 := hb4.l1
   clear q4 bw3
   have cx3a := x3a.c2
   have lx3a := lts0 x3a.lt
   have cx4a := x4a.c2
   have lx4a := lts0 x4a.lt
   go_wp2_with fail
   (with_reducible refine (g_form _ b2 A2 n2 c2 (valZ F) (65536) ?_ b3 A3 n3 c3 (valZ B) (65536) ?_ (Rat.divInt (valZ F) (valZ B)) 65536 ?_ ?_ ?_ ?_).mono ?_); (exact h2.iz); (exact h3.iz); (exact HNE.out); (rfl); (exact HS.out); omega; rintro e w5 ⟨b5, A5, n5, c5, A'5, n'5, c'5, rfl, h5, q5⟩
   clear cx3a lx3a cx4a lx4a
   replace h2 := h2.belw q5
   replace h3 := h3.belw q5
   replace x1a := x1a.b q5
   replace x3a := x3a.b q5
   replace x4a := x4a.b q5
   have bw5 := bw4.trans (q5.mono bw4.size)
   have lw5 := q5.size
   clear q5 bw4
   go_wp2_with fail
   (with_reducible refine (g_text_v _ b5 A5 n5 c5 A'5 n'5 c'5 (Rat.divInt (valZ F) (valZ B)) (65536) ?_ X HX.out ?_ ?_).mono ?_); (exact h5.qz); omega; omega; rintro e w6 ⟨rfl, q6⟩
   replace h2 := h2.belw q6
   replace h3 := h3.belw q6
   replace h5 := h5.belw q6
   replace x1a := x1a.b q6
   replace x3a := x3a.b q6
   replace x4a := x4a.b q6
   have bw6 := bw5.trans (q6.mono bw5.size)
   have lw6 := q6.size
   clear q6 bw5
   have cx1a := x1a.c3
   have fx1a := x1a.f3
   have lx1a := lts0 x1a.lt
   go_wp2_with fail
   refine bodyPost_ret (v := .tuple #[.agg #[.bool false, .slice none 0 0, .slice none 0 0], .int .i64 2]) (by simp [results, Tryz.results39, go_sem, *] <;> trivial) rfl ?_
   exact ⟨_, _, _, _, _, _, _, rfl, QV.zero _ _, (((bw6.sc w.heap.size 0 (by omega) (.bool false)).sc w.heap.size 1 (by omega) (.slice none 0 0)).sc w.heap.size 2 (by omega) (.slice none 0 0))⟩
theorem g_parse_s5 (w : World) (s F B : List UInt8) (hl : s.length ≤ 65536) (hs : s = F ++ 47 :: B) (hF : ∀ c ∈ F, c ≠ 47 ∧ c ≠ 46) (h1 : okZ F = true) (h2 : okZ B = true) (h3 : (valZ B).sign = 1) (h4 : ratText (Rat.divInt (valZ F) (valZ B)) = s) :
  Calls Tryz.prog 39 #[strV s] w (RetFe w (.int .i64 0) (Rat.divInt (valZ F) (valZ B)) 65536) := by
 have HNE := Lib.hid (show valZ B ≠ 0 by intro e; rw [e] at h3; cases h3)
 have HS := Lib.hid (Sz_divInt (valZ_lt2 h1 (show F.length ≤ 65536 by rw [hs] at hl; simp at hl; omega)) (valZ_lt2 h2 (show B.length ≤ 65536 by rw [hs] at hl; simp at hl; omega)) (by decide))
 have H1 := Lib.hid h1
 clear h1
 have H2 := Lib.hid h2
 clear h2
 have H3 := Lib.hid h3
 clear h3
 have H4 := Lib.hid h4
 clear h4
 have htls := toList_v s
 have hszs := size_v s
 have hlen : ((65536 : Int) < (s.length : Int)) = False := by simp; omega
 have hFs : F.length < s.length := by rw [hs]; simp
 have hpre : ∀ (i : Nat) (hi : i < F.length) (hi2 : i < s.length), s[i] ≠ 47 ∧ s[i] ≠ 46 := fun i hi hi2 => by
  have e : s[i] = F[i] := by subst hs; exact List.getElem_append_left hi
  rw [e]; exact hF _ (List.getElem_mem _)
 have hat : ∀ h : F.length < s.length, s[F.length] = 47 := fun h => by subst hs; simp
 have e1 : (⟨s.toArray⟩ : ByteArray).extract 0 F.length = ⟨F.toArray⟩ := by rw [ext_v, hs]; simp
 have e2 : (⟨s.toArray⟩ : ByteArray).extract (F.length + 1) s.length = ⟨B.toArray⟩ := by
  rw [ext_v, hs]; simp; exact List.take_of_length_le (by omega)
 have hF6 : F.length ≤ 65536 := by omega
 have hB6 : B.length ≤ 65536 := by rw [hs] at hl; simp at hl; omega
 have HP := Lib.hid hpre
 have HA := Lib.hid hat
 clear hpre hat hF
 clear hs
 go_enter Tryz.func39, Tryz.ntmps39
 go_wp2_with fail
 have p1 := ((Kp.refl w).alloc (.cells #[.bool false, .slice none 0 0, .slice none 0 0] 24))
 have bw1 := ((brefl w).alloc (by first | omega | (simp <;> omega)) (.cells #[.bool false, .slice none 0 0, .slice none 0 0] 24))
 have x1a : Blk (w.alloc (.cells #[.bool false, .slice none 0 0, .slice none 0 0] 24)) w.heap.size 24 #[.bool false, .slice none 0 0, .slice none 0 0] := (blkAt _ _ _ (by simp))
 have lw1 : w.heap.size + 1 ≤ (w.alloc (.cells #[.bool false, .slice none 0 0, .slice none 0 0] 24)).heap.size := by simp
 generalize hE1 : (w.alloc (.cells #[.bool false, .slice none 0 0, .slice none 0 0] 24)) = w1 at p1 bw1 lw1 x1a ⊢
 clear hE1
 go_loopw [17] (fun iv wr => ∃ (i : Nat), iv = .int .i64 (i : Nat) ∧ i ≤ F.length ∧ Kp w1 wr ∧ Below w.heap.size w wr ∧ w1.heap.size ≤ wr.heap.size ∧ Blk wr w.heap.size 24 #[.bool false, .slice none 0 0, .slice none 0 0]) (fun iv _ => s.length - (intOf iv).toNat)
 case atStart => exact ⟨0, rfl, Nat.zero_le _, Kp.refl _, bw1, Nat.le_refl _, x1a⟩
 case round =>
  clear x1a
  obtain ⟨i, rfl, hi, hkp, hbw, hlw, x1a⟩ := hrel
  by_cases hlt : i < F.length
  ·obtain ⟨d, hd⟩ : ∃ d, s[i]'(by omega) = d := ⟨_, rfl⟩
   have hget : ∀ h, (⟨s.toArray⟩ : ByteArray)[i]'h = d := fun h => hd
   have hne := HP.out i hlt (by omega)
   rw [hd] at hne
   obtain ⟨dn, hdn⟩ : ∃ dn, d.toNat = dn := ⟨_, rfl⟩
   have h47 : ((dn : Int) == 47) = false := by simp; intro e; exact hne.1 (UInt8.toNat.inj (by rw [hdn]; show dn = 47; omega))
   have h46 : ((dn : Int) == 46) = false := by simp; intro e; exact hne.2 (UInt8.toNat.inj (by rw [hdn]; show dn = 46; omega))
   have hlts : i < s.length := by omega
   clear hd hne
   go_wp2_with fail
   go_roundw
   case rel => exact ⟨i + 1, by go_num, by omega, hkp, hbw, by omega, x1a⟩
   case measure => simp [intOf]; omega
  ·have hiF : i = F.length := by omega
   subst hiF
   have hget : ∀ h, (⟨s.toArray⟩ : ByteArray)[F.length]'h = 47 := fun h => HA.out h
   have hw1 : IntKind.i64.wrap ((F.length : Int) + 1) = (F.length : Int) + 1 := IntWalk.i64_in _ ⟨by omega, by omega⟩
   have hi0 : (0 : Int) ≤ (F.length : Int) := by omega
   have hiL : (F.length : Int) ≤ (s.length : Int) := by omega
   have hiL2 : (F.length : Int) + 1 ≤ (s.length : Int) := by omega
   have hi1 : (0 : Int) ≤ (F.length : Int) + 1 := by omega
   have et : ((F.length : Int) + 1).toNat = F.length + 1 := by omega
   clear hi hlt
   go_wp2_with fail
   (with_reducible refine (r_parse_ok6 _ (F) (by omega) H1.out).mono ?_); rintro e w2 ⟨b2, A2, n2, c2, rfl, h2, q2⟩
   replace x1a := x1a.b q2
   have bw2 := hbw.trans (q2.mono hbw.size)
   have lw2 := q2.size
   clear q2
   go_wp2_with fail
   (with_reducible refine (r_parse_ok6 _ (B) (by omega) H2.out).mono ?_); rintro e w3 ⟨b3, A3, n3, c3, rfl, h3, hb3⟩
   have q3 := hb3.q1
   replace h2 := h2.belw q3
   replace x1a := x1a.b q3
   have x3a : Blk w3 w2.heap.size 77 #[.bool b2, .slice A2 n2 c2] := (blkAt _ _ _ (by simp)).below hb3 (by simp)
   have bw3 := bw2.trans (q3.mono bw2.size)
   have lw3 := hb3.l1
   clear q3 bw2
   go_wp2_with fail
   (with_reducible refine (r01_sign_e _ b3 A3 n3 c3 (valZ B) (65536) ?_ (1) ?_ ?_).mono ?_); (exact (h3.belw ((Below.refl _ _).alloc (Nat.le_refl _) _)).iz); (exact H3.out); omega; rintro e w4 ⟨rfl, hb4⟩
   have q4 := hb4.q1
   replace h2 := h2.belw q4
   replace h3 := h3.belw q4
   replace x1a := x1a.b q4
   replace x3a := x3a.b q4
   have x4a : Blk w4 w3.heap.size 77 #[.bool b3, .slice A3 n3 c3] := (blkAt _ _ _ (by simp)).below hb4 (by simp)
   have bw4 := bw3.trans (q4.mono bw3.size)
   have lw4 := hb4.l1
   clear q4 bw3
   obtain ⟨cx3aa, cx3ab⟩ := x3a.c2
   obtain ⟨lx3aa, lx3ab, lx3ac, lx3ad⟩ := lts0 x3a.lt
   obtain ⟨cx4aa, cx4ab⟩ := x4a.c2
   obtain ⟨lx4aa, lx4ab, lx4ac, lx4ad⟩ := lts0 x4a.lt
   go_wp2_with fail
   (with_reducible refine (g_form _ b2 A2 n2 c2 (valZ F) (65536) ?_ b3 A3 n3 c3 (valZ B) (65536) ?_ (Rat.divInt (valZ F) (valZ B)) 65536 ?_ ?_ ?_ ?_).mono ?_); (exact h2.iz); (exact h3.iz); (exact HNE.out); (rfl); (exact HS.out); omega; rintro e w5 ⟨b5, A5, n5, c5, A'5, n'5, c'5, rfl, h5, q5⟩
   clear cx3aa cx3ab lx3aa lx3ab lx3ac lx3ad cx4aa cx4ab lx4aa lx4ab lx4ac lx4ad
   replace h2 := h2.belw q5
   replace h3 := h3.belw q5
   replace x1a := x1a.b q5
   replace x3a := x3a.b q5
   replace x4a := x4a.b q5
   have bw5 := bw4.trans (q5.mono bw4.size)
   have lw5 := q5.size
   clear q5 bw4
   go_wp2_with fail
   (with_reducible refine (g_text_v _ b5 A5 n5 c5 A'5 n'5 c'5 (Rat.divInt (valZ F) (valZ B)) (65536) ?_ s H4.out ?_ ?_).mono ?_); (exact h5.qz); omega; omega; rintro e w6 ⟨rfl, q6⟩
   replace h2 := h2.belw q6
   replace h3 := h3.belw q6
   replace h5 := h5.belw q6
   replace x1a := x1a.b q6
   replace x3a := x3a.b q6
   replace x4a := x4a.b q6
   have bw6 := bw5.trans (q6.mono bw5.size)
   have lw6 := q6.size
   clear q6 bw5
   obtain ⟨cx3aa, cx3ab⟩ := x3a.c2
   obtain ⟨lx3aa, lx3ab, lx3ac, lx3ad⟩ := lts0 x3a.lt
   obtain ⟨cx4aa, cx4ab⟩ := x4a.c2
   obtain ⟨lx4aa, lx4ab, lx4ac, lx4ad⟩ := lts0 x4a.lt
   go_wp2_with fail
   (with_reducible refine (g_form _ b2 A2 n2 c2 (valZ F) (65536) ?_ b3 A3 n3 c3 (valZ B) (65536) ?_ (Rat.divInt (valZ F) (valZ B)) 65536 ?_ ?_ ?_ ?_).mono ?_); (exact h2.iz); (exact h3.iz); (exact HNE.out); (rfl); (exact HS.out); omega; rintro e w7 ⟨b7, A7, n7, c7, A'7, n'7, c'7, rfl, h7, q7⟩
   clear cx3aa cx3ab lx3aa lx3ab lx3ac lx3ad cx4aa cx4ab lx4aa lx4ab lx4ac lx4ad
   replace h2 := h2.belw q7
   replace h3 := h3.belw q7
   replace h5 := h5.belw q7
   replace x1a := x1a.b q7
   replace x3a := x3a.b q7
   replace x4a := x4a.b q7
   have bw7 := bw6.trans (q7.mono bw6.size)
   have lw7 := q7.size
   clear q7 bw6
   have cx1a := x1a.c3
   have fx1a := x1a.f3
   have lx1a := lts0 x1a.lt
   go_wp2_with fail
   refine bodyPost_ret (v := .tuple #[.agg #[.bool b7, .slice A7 n7 c7, .slice A'7 n'7 c'7], .int .i64 0]) (by simp [results, Tryz.results39, go_sem, *] <;> trivial) rfl ?_
   exact ⟨b7, A7, n7, c7, A'7, n'7, c'7, rfl, h7.keep ((((Kp.refl w7).sb w.heap.size 0 x1a.box (by decide) (.bool b7)).sb w.heap.size 1 (x1a.box.set ⟨w.heap.size, 0, none⟩ (.bool b7)) (by decide) (.slice A7 n7 c7)).sb w.heap.size 2 ((x1a.box.set ⟨w.heap.size, 0, none⟩ (.bool b7)).set ⟨w.heap.size, 1, none⟩ (.slice A7 n7 c7)) (by decide) (.slice A'7 n'7 c'7)), (((bw7.sc w.heap.size 0 (by omega) (.bool b7)).sc w.heap.size 1 (by omega) (.slice A7 n7 c7)).sc w.heap.size 2 (by omega) (.slice A'7 n'7 c'7))⟩
theorem g_parse_w1 (w : World) (s : List UInt8) (hl : s.length ≤ 65536) (hs : ∀ c ∈ s, c ≠ 47 ∧ c ≠ 46) (h1 : okZ s = false) :
    Calls Tryz.prog 39 #[strV s] w (RetFe w (.int .i64 2) 0 1) := by
  have H1 := Lib.hid h1
  clear h1
  have hszs := size_v s
  have hlen : ((65536 : Int) < (s.length : Int)) = False := by simp; omega
  have HP := Lib.hid hs
  clear hs
  go_enter Tryz.func39, Tryz.ntmps39
  go_wp2_with fail
  have p1 := ((Kp.refl w).alloc (.cells #[.bool false, .slice none 0 0, .slice none 0 0] 24))
  have bw1 := ((brefl w).alloc (by first | omega | (simp <;> omega)) (.cells #[.bool false, .slice none 0 0, .slice none 0 0] 24))
  have x1a : Blk (w.alloc (.cells #[.bool false, .slice none 0 0, .slice none 0 0] 24)) w.heap.size 24 #[.bool false, .slice none 0 0, .slice none 0 0] := (blkAt _ _ _ (by simp))
  have lw1 : w.heap.size + 1 ≤ (w.alloc (.cells #[.bool false, .slice none 0 0, .slice none 0 0] 24)).heap.size := by simp
  generalize hE1 : (w.alloc (.cells #[.bool false, .slice none 0 0, .slice none 0 0] 24)) = w1 at p1 bw1 lw1 x1a ⊢
  clear hE1
  go_loopw [17] (fun iv wr => ∃ (i : Nat), iv = .int .i64 (i : Nat) ∧ i ≤ s.length ∧ Kp w1 wr ∧ Below w.heap.size w wr ∧ w1.heap.size ≤ wr.heap.size ∧ Blk wr w.heap.size 24 #[.bool false, .slice none 0 0, .slice none 0 0]) (fun iv _ => s.length - (intOf iv).toNat)
  case atStart => exact ⟨0, rfl, Nat.zero_le _, Kp.refl _, bw1, Nat.le_refl _, x1a⟩
  case round =>
    clear x1a
    obtain ⟨i, rfl, hi, hkp, hbw, hlw, x1a⟩ := hrel
    by_cases hlt : i < s.length
    · obtain ⟨d, hd⟩ : ∃ d, s[i]'(by omega) = d := ⟨_, rfl⟩
      have hget : ∀ h, (⟨s.toArray⟩ : ByteArray)[i]'h = d := fun h => hd
      have hne := HP.out _ (List.getElem_mem hlt)
      rw [hd] at hne
      obtain ⟨dn, hdn⟩ : ∃ dn, d.toNat = dn := ⟨_, rfl⟩
      have h47 : ((dn : Int) == 47) = false := by simp; intro e; exact hne.1 (UInt8.toNat.inj (by rw [hdn]; show dn = 47; omega))
      have h46 : ((dn : Int) == 46) = false := by simp; intro e; exact hne.2 (UInt8.toNat.inj (by rw [hdn]; show dn = 46; omega))
      have hlts : i < s.length := by omega
      clear hd hne
      go_wp2_with fail
      go_roundw
      case rel => exact ⟨i + 1, by go_num, by omega, hkp, hbw, by omega, x1a⟩
      case measure => simp [intOf]; omega
    · have hiF : i = s.length := by omega
      subst hiF
      go_wp2_with fail
      (with_reducible refine (r_parse_bad _ (s) (by omega) H1.out).mono ?_); rintro e w2 ⟨b2, A2, n2, c2, rfl, h2, q2⟩
      replace x1a := x1a.b q2
      have bw2 := hbw.trans (q2.mono hbw.size)
      have lw2 := q2.size
      clear q2
      go_wp2_with fail
      have p3 := ((Kp.refl w2).alloc (.cells #[.bool b2, .slice A2 n2 c2] 77))
      have bw3 := (bw2.alloc (by first | omega | (simp <;> omega)) (.cells #[.bool b2, .slice A2 n2 c2] 77))
      have x3a : Blk (w2.alloc (.cells #[.bool b2, .slice A2 n2 c2] 77)) w2.heap.size 77 #[.bool b2, .slice A2 n2 c2] := (blkAt _ _ _ (by simp))
      replace x1a := (x1a.alloc (.cells #[.bool b2, .slice A2 n2 c2] 77))
      have lw3 : w2.heap.size + 1 ≤ (w2.alloc (.cells #[.bool b2, .slice A2 n2 c2] 77)).heap.size := by simp
      generalize hE3 : (w2.alloc (.cells #[.bool b2, .slice A2 n2 c2] 77)) = w3 at p3 bw3 lw3 x3a x1a ⊢
      clear hE3
      replace h2 := h2.keep p3
      clear bw2
      have cx1aa : w3.cell? ⟨w.heap.size, 0, none⟩ = some (.bool false) := x1a.cell 0
      have fx1aa : w3.frozen? ⟨w.heap.size, 0, none⟩ = false := x1a.frozen 0
      have cx1ab : w3.cell? ⟨w.heap.size, 1, none⟩ = some (.slice none 0 0) := x1a.cell 1
      have fx1ab : w3.frozen? ⟨w.heap.size, 1, none⟩ = false := x1a.frozen 1
      have cx1ac : w3.cell? ⟨w.heap.size, 2, none⟩ = some (.slice none 0 0) := x1a.cell 2
      have fx1ac : w3.frozen? ⟨w.heap.size, 2, none⟩ = false := x1a.frozen 2
      have lx1a := lts0 x1a.lt
      have cx3a := x3a.c2
      have lx3a := lts0 x3a.lt
      have nfx3_0_0 : ¬ w2.heap.size = w.heap.size := by omega
      have nex3_0_0 : ¬ w2.heap.size = w.heap.size := by omega
      go_region_held3 (fun w' => SeesX w3.heap.size (w.heap.size) w3 w') (first | with_reducible exact SeesX.of (Nat.le_refl _) (by assumption) | with_reducible exact SeesX.of (Nat.le_refl _) (brefl _).drew | with_reducible exact (SeesX.set (SeesX.set (SeesX.set (SeesX.of (Nat.le_refl _) (by assumption))))) | with_reducible exact (SeesX.set (SeesX.set (SeesX.of (Nat.le_refl _) (by assumption)))) | with_reducible exact (SeesX.set (SeesX.of (Nat.le_refl _) (by assumption))) | exact SeesX.of (Nat.le_refl _) (below_drewN (brefl _) 1) | exact SeesX.of (Nat.le_refl _) (below_drewN (by assumption) _))
        (first
          | (go_at_call 66; (with_reducible refine (g_one _).mono ?_); rintro e w4 ⟨b4, A4, n4, c4, rfl, h4, hb4⟩; replace hb4 := bnext (below_drewN (brefl _) 1) hb4; have q4 : Below w3.heap.size w3 w4 := bnext (brefl w3) hb4; replace h2 := h2.belw hb4)
          | (go_at_call 64; (with_reducible refine (g_form _ b2 A2 n2 c2 (0) (0) ?_ b4 A4 n4 c4 (1) (1) ?_ (0) 1 ?_ ?_ ?_ ?_).mono ?_); (exact h2.iz); (exact h4.iz); (decide); (exact int_q _); (exact Sz_int (z := 0) (by decide) (by decide)); omega; rintro e w5 ⟨b5, A5, n5, c5, A'5, n'5, c'5, rfl, h5, hb5⟩; have q5 : Below w3.heap.size w3 w5 := bnext q4 hb5; replace h2 := h2.belw hb5; replace h4 := h4.belw hb5; have x1a := x1a.b q5; obtain ⟨cx1aa, cx1ab, cx1ac⟩ := x1a.c3; obtain ⟨fx1aa, fx1ab, fx1ac⟩ := x1a.f3))
      have bw5 := bw3.trans (q5.mono bw3.size)
      clear cx1aa fx1aa cx1ab fx1ab cx1ac fx1ac lx1a cx3a lx3a
      replace x3a := x3a.b q5
      have lw5 := q5.size
      obtain ⟨cx1aa, cx1ab, cx1ac⟩ := x1a.c3
      obtain ⟨fx1aa, fx1ab, fx1ac⟩ := x1a.f3
      go_wp2_with fail
      refine bodyPost_ret (v := .tuple #[.agg #[.bool b5, .slice A5 n5 c5, .slice A'5 n'5 c'5], .int .i64 2]) (by simp [results, Tryz.results39, go_sem, *] <;> trivial) rfl ?_
      exact ⟨_, _, _, _, _, _, _, rfl, (h5).keep ((((Kp.refl w5).sb w.heap.size 0 x1a.box (by decide) (.bool b5)).sb w.heap.size 1 (x1a.box.set ⟨w.heap.size, 0, none⟩ (.bool b5)) (by decide) (.slice A5 n5 c5)).sb w.heap.size 2 ((x1a.box.set ⟨w.heap.size, 0, none⟩ (.bool b5)).set ⟨w.heap.size, 1, none⟩ (.slice A5 n5 c5)) (by decide) (.slice A'5 n'5 c'5)), (((bw5.sc w.heap.size 0 (by omega) (.bool b5)).sc w.heap.size 1 (by omega) (.slice A5 n5 c5)).sc w.heap.size 2 (by omega) (.slice A'5 n'5 c'5))⟩
theorem g_parse_w2 (w : World) (s : List UInt8) (hl : s.length ≤ 65536) (hs : ∀ c ∈ s, c ≠ 47 ∧ c ≠ 46) (h1 : okZ s = true) :
    Calls Tryz.prog 39 #[strV s] w (RetFe w (.int .i64 0) ((valZ s : Int) : Rat) 65536) := by
  have HS := Lib.hid (Sz_int (valZ_lt2 h1 hl) (show 0 < 65536 by decide))
  have H1 := Lib.hid h1
  clear h1
  have hszs := size_v s
  have hlen : ((65536 : Int) < (s.length : Int)) = False := by simp; omega
  have HP := Lib.hid hs
  clear hs
  go_enter Tryz.func39, Tryz.ntmps39
  go_wp2_with fail
  have p1 := ((Kp.refl w).alloc (.cells #[.bool false, .slice none 0 0, .slice none 0 0] 24))
  have bw1 := ((brefl w).alloc (by first | omega | (simp <;> omega)) (.cells #[.bool false, .slice none 0 0, .slice none 0 0] 24))
  have x1a : Blk (w.alloc (.cells #[.bool false, .slice none 0 0, .slice none 0 0] 24)) w.heap.size 24 #[.bool false, .slice none 0 0, .slice none 0 0] := (blkAt _ _ _ (by simp))
  have lw1 : w.heap.size + 1 ≤ (w.alloc (.cells #[.bool false, .slice none 0 0, .slice none 0 0] 24)).heap.size := by simp
  generalize hE1 : (w.alloc (.cells #[.bool false, .slice none 0 0, .slice none 0 0] 24)) = w1 at p1 bw1 lw1 x1a ⊢
  clear hE1
  go_loopw [17] (fun iv wr => ∃ (i : Nat), iv = .int .i64 (i : Nat) ∧ i ≤ s.length ∧ Kp w1 wr ∧ Below w.heap.size w wr ∧ w1.heap.size ≤ wr.heap.size ∧ Blk wr w.heap.size 24 #[.bool false, .slice none 0 0, .slice none 0 0]) (fun iv _ => s.length - (intOf iv).toNat)
  case atStart => exact ⟨0, rfl, Nat.zero_le _, Kp.refl _, bw1, Nat.le_refl _, x1a⟩
  case round =>
    clear x1a
    obtain ⟨i, rfl, hi, hkp, hbw, hlw, x1a⟩ := hrel
    by_cases hlt : i < s.length
    · obtain ⟨d, hd⟩ : ∃ d, s[i]'(by omega) = d := ⟨_, rfl⟩
      have hget : ∀ h, (⟨s.toArray⟩ : ByteArray)[i]'h = d := fun h => hd
      have hne := HP.out _ (List.getElem_mem hlt)
      rw [hd] at hne
      obtain ⟨dn, hdn⟩ : ∃ dn, d.toNat = dn := ⟨_, rfl⟩
      have h47 : ((dn : Int) == 47) = false := by simp; intro e; exact hne.1 (UInt8.toNat.inj (by rw [hdn]; show dn = 47; omega))
      have h46 : ((dn : Int) == 46) = false := by simp; intro e; exact hne.2 (UInt8.toNat.inj (by rw [hdn]; show dn = 46; omega))
      have hlts : i < s.length := by omega
      clear hd hne
      go_wp2_with fail
      go_roundw
      case rel => exact ⟨i + 1, by go_num, by omega, hkp, hbw, by omega, x1a⟩
      case measure => simp [intOf]; omega
    · have hiF : i = s.length := by omega
      subst hiF
      go_wp2_with fail
      (with_reducible refine (r_parse_ok6 _ (s) (by omega) H1.out).mono ?_); rintro e w2 ⟨b2, A2, n2, c2, rfl, h2, q2⟩
      replace x1a := x1a.b q2
      have bw2 := hbw.trans (q2.mono hbw.size)
      have lw2 := q2.size
      clear q2
      go_wp2_with fail
      have p3 := ((Kp.refl w2).alloc (.cells #[.bool b2, .slice A2 n2 c2] 77))
      have bw3 := (bw2.alloc (by first | omega | (simp <;> omega)) (.cells #[.bool b2, .slice A2 n2 c2] 77))
      have x3a : Blk (w2.alloc (.cells #[.bool b2, .slice A2 n2 c2] 77)) w2.heap.size 77 #[.bool b2, .slice A2 n2 c2] := (blkAt _ _ _ (by simp))
      replace x1a := (x1a.alloc (.cells #[.bool b2, .slice A2 n2 c2] 77))
      have lw3 : w2.heap.size + 1 ≤ (w2.alloc (.cells #[.bool b2, .slice A2 n2 c2] 77)).heap.size := by simp
      generalize hE3 : (w2.alloc (.cells #[.bool b2, .slice A2 n2 c2] 77)) = w3 at p3 bw3 lw3 x3a x1a ⊢
      clear hE3
      replace h2 := h2.keep p3
      clear bw2
      have cx1aa : w3.cell? ⟨w.heap.size, 0, none⟩ = some (.bool false) := x1a.cell 0
      have fx1aa : w3.frozen? ⟨w.heap.size, 0, none⟩ = false := x1a.frozen 0
      have cx1ab : w3.cell? ⟨w.heap.size, 1, none⟩ = some (.slice none 0 0) := x1a.cell 1
      have fx1ab : w3.frozen? ⟨w.heap.size, 1, none⟩ = false := x1a.frozen 1
      have cx1ac : w3.cell? ⟨w.heap.size, 2, none⟩ = some (.slice none 0 0) := x1a.cell 2
      have fx1ac : w3.frozen? ⟨w.heap.size, 2, none⟩ = false := x1a.frozen 2
      have lx1a := lts0 x1a.lt
      have cx3a := x3a.c2
      have lx3a := lts0 x3a.lt
      have nfx3_0_0 : ¬ w2.heap.size = w.heap.size := by omega
      have nex3_0_0 : ¬ w2.heap.size = w.heap.size := by omega
      go_region_held3 (fun w' => SeesX w3.heap.size (w.heap.size) w3 w') (first | with_reducible exact SeesX.of (Nat.le_refl _) (by assumption) | with_reducible exact SeesX.of (Nat.le_refl _) (brefl _).drew | with_reducible exact (SeesX.set (SeesX.set (SeesX.set (SeesX.of (Nat.le_refl _) (by assumption))))) | with_reducible exact (SeesX.set (SeesX.set (SeesX.of (Nat.le_refl _) (by assumption)))) | with_reducible exact (SeesX.set (SeesX.of (Nat.le_refl _) (by assumption))) | exact SeesX.of (Nat.le_refl _) (below_drewN (brefl _) 1) | exact SeesX.of (Nat.le_refl _) (below_drewN (by assumption) _))
        (first
          | (go_at_call 66; (with_reducible refine (g_one _).mono ?_); rintro e w4 ⟨b4, A4, n4, c4, rfl, h4, hb4⟩; replace hb4 := bnext (below_drewN (brefl _) 1) hb4; have q4 : Below w3.heap.size w3 w4 := bnext (brefl w3) hb4; replace h2 := h2.belw hb4)
          | (go_at_call 64; (with_reducible refine (g_form _ b2 A2 n2 c2 (valZ s) (65536) ?_ b4 A4 n4 c4 (1) (1) ?_ (((valZ s : Int) : Rat)) 65536 ?_ ?_ ?_ ?_).mono ?_); (exact h2.iz); (exact h4.iz); (decide); (exact int_q _); (exact HS.out); omega; rintro e w5 ⟨b5, A5, n5, c5, A'5, n'5, c'5, rfl, h5, hb5⟩; have q5 : Below w3.heap.size w3 w5 := bnext q4 hb5; replace h2 := h2.belw hb5; replace h4 := h4.belw hb5; have x1a := x1a.b q5; obtain ⟨cx1aa, cx1ab, cx1ac⟩ := x1a.c3; obtain ⟨fx1aa, fx1ab, fx1ac⟩ := x1a.f3))
      have bw5 := bw3.trans (q5.mono bw3.size)
      clear cx1aa fx1aa cx1ab fx1ab cx1ac fx1ac lx1a cx3a lx3a
      replace x3a := x3a.b q5
      have lw5 := q5.size
      obtain ⟨cx1aa, cx1ab, cx1ac⟩ := x1a.c3
      obtain ⟨fx1aa, fx1ab, fx1ac⟩ := x1a.f3
      go_wp2_with fail
      refine bodyPost_ret (v := .tuple #[.agg #[.bool b5, .slice A5 n5 c5, .slice A'5 n'5 c'5], .int .i64 0]) (by simp [results, Tryz.results39, go_sem, *] <;> trivial) rfl ?_
      exact ⟨_, _, _, _, _, _, _, rfl, (h5).keep ((((Kp.refl w5).sb w.heap.size 0 x1a.box (by decide) (.bool b5)).sb w.heap.size 1 (x1a.box.set ⟨w.heap.size, 0, none⟩ (.bool b5)) (by decide) (.slice A5 n5 c5)).sb w.heap.size 2 ((x1a.box.set ⟨w.heap.size, 0, none⟩ (.bool b5)).set ⟨w.heap.size, 1, none⟩ (.slice A5 n5 c5)) (by decide) (.slice A'5 n'5 c'5)), (((bw5.sc w.heap.size 0 (by omega) (.bool b5)).sc w.heap.size 1 (by omega) (.slice A5 n5 c5)).sc w.heap.size 2 (by omega) (.slice A'5 n'5 c'5))⟩
end Go.Proofs.YtianjkiakkclgaaGreatDoor
namespace Go.Proofs.YtianjkiakkclgaaGreatDoor
open Go Go.RowKit Bn
attribute [local go_sem ↓] Go.wp_at_zero Go.wp_at_succ
theorem g_parse_o (w : World) (s : List UInt8) (x : Int) (q : Rat) (h : FracOut s x q) : Calls Tryz.prog 39 #[strV s] w (RetFe w (.int .i64 x) q 65536) := by
  have mono : ∀ {v : Value} {q : Rat} {k : Nat} {e : Ending} {w' : World}, k ≤ 65536 → RetFe w v q k e w' → RetFe w v q 65536 e w' := by
    rintro v q k e w' hk ⟨b, A, n, c, D, m, d, he, hv, hb⟩
    exact ⟨b, A, n, c, D, m, d, he, hv.mono hk, hb⟩
  have two : ∀ {l : List UInt8}, 47 ∉ l → 46 ∉ l → ∀ c ∈ l, c ≠ 47 ∧ c ≠ 46 := fun h1 h2 c hc => ⟨fun e => h1 (e ▸ hc), fun e => h2 (e ▸ hc)⟩
  rcases h with ⟨h, rfl, rfl⟩ | ⟨F, B, hl, hs, hF, h64, h, rfl, rfl⟩ | ⟨F, B, hl, hs, hF, h, rfl, rfl⟩ | ⟨F, B, hl, hd, hs, hF, h, rfl, rfl⟩ | ⟨F, B, hl, hd, hs, hF, h, rfl, rfl⟩ | ⟨hl, hd, hs, h, rfl, rfl⟩ | ⟨hl, hd, hs, h, rfl, rfl⟩
  · exact (g_parse_big w s h).mono fun _ _ r => mono (by decide) r
  · obtain ⟨h1, _⟩ := decOk_parts h
    have h47 : 47 ∉ F := by
      have hT : 47 ∉ tailS F := by
        intro hm
        have := List.all_eq_true.1 (okZ_parts h1).2.1
        rcases head_cases (tailS F) with ⟨_, b⟩ | ⟨_, b⟩
        · rw [b] at hm
          rcases List.mem_cons.1 hm with e | e
          · exact absurd e (by decide)
          · exact absurd (this _ e) (by decide)
        · rw [b] at this; exact absurd (this _ hm) (by decide)
      rcases head_cases F with ⟨_, b⟩ | ⟨_, b⟩
      · rw [b]; intro hm
        rcases List.mem_cons.1 hm with e | e
        · exact absurd e (by decide)
        · exact hT e
      · rw [b] at hT; exact hT
    exact (g_parse_dot w s F B hl hs (two h47 hF) 0 _ (.inl ⟨h64, h, rfl, rfl⟩)).mono fun _ _ r => mono (by decide) r
  · rcases split_at 47 F with h47 | ⟨F1, F2, hs2, hF1⟩
    · exact (g_parse_dot w s F B hl hs (two h47 hF) 2 _ (.inr ⟨h, rfl, rfl⟩)).mono fun _ _ r => mono (by decide) r
    · have hs3 : s = F1 ++ 47 :: (F2 ++ 46 :: B) := by rw [hs, hs2]; simp
      have hF46 : 46 ∉ F1 := fun e => hF (by rw [hs2]; exact List.mem_append_left _ e)
      cases h1 : okZ F1
      · exact (g_parse_s1 w s F1 _ hl hs3 (two hF1 hF46) h1).mono fun _ _ r => mono (by decide) r
      · have h2 : okZ (F2 ++ 46 :: B) = false := by
          cases h2 : okZ (F2 ++ 46 :: B)
          · rfl
          · exact absurd (List.mem_append_right _ (List.mem_cons_self)) (okZ_slash h2).2
        exact (g_parse_s2 w s F1 _ hl hs3 (two hF1 hF46) h1 h2).mono fun _ _ r => mono (by decide) r
  · have hF46 : 46 ∉ F := fun e => hd (by rw [hs]; exact List.mem_append_left _ e)
    obtain ⟨h1, h2, h3, h4, h5⟩ := quoOk_parts h
    exact g_parse_s5 w s F B hl hs (two hF hF46) h1 h2 (Int.sign_eq_one_of_pos h3) (by rw [hs]; exact (frac_text h1 h2 h3).2 ⟨h4, h5⟩)
  · have hF46 : 46 ∉ F := fun e => hd (by rw [hs]; exact List.mem_append_left _ e)
    rcases quoOk_not h with h1 | ⟨h1, h2⟩ | ⟨h1, h2, h3⟩ | ⟨h1, h2, h3, h4⟩ | ⟨h1, h2, h3, h4, h5⟩
    · exact (g_parse_s1 w s F B hl hs (two hF hF46) h1).mono fun _ _ r => mono (by decide) r
    · exact (g_parse_s2 w s F B hl hs (two hF hF46) h1 h2).mono fun _ _ r => mono (by decide) r
    · refine (g_parse_s3 w s F B hl hs (two hF hF46) h1 h2 ?_).mono fun _ _ r => mono (by decide) r
      rcases sign3 (valZ B) with e | e | e
      · rw [e]; decide
      · have := Int.sign_eq_one_iff_pos.1 e; omega
      · rw [e]; decide
    · exact (g_parse_s4 w s F B hl hs (two hF hF46) h1 h2 (Int.sign_eq_one_of_pos h3) (fun e => by rw [hs] at e; exact ((frac_text h1 h2 h3).1 e).1 h4)).mono fun _ _ r => mono (by decide) r
    · exact (g_parse_s4 w s F B hl hs (two hF hF46) h1 h2 (Int.sign_eq_one_of_pos h3) (fun e => by rw [hs] at e; exact h5 ((frac_text h1 h2 h3).1 e).2)).mono fun _ _ r => mono (by decide) r
  · exact g_parse_w2 w s hl (two hs hd) h
  · exact (g_parse_w1 w s hl (two hs hd) h).mono fun _ _ r => mono (by decide) r
end Go.Proofs.YtianjkiakkclgaaGreatDoor
namespace Go.Proofs.YtianjkiakkclgaaGreatDoor
open Go Go.RowKit Bn
attribute [local go_sem ↓] Go.wp_at_zero Go.wp_at_succ
def onC (c s : Rat) : Prop := c * c + s * s = ((1 : Int) : Rat)
instance (c s : Rat) : Decidable (onC c s) := by unfold onC; exact inferInstance
def ofX (c s : Rat) : Int := if onC c s then 0 else 2
def ofT (c s : Rat) : TN := if onC c s then tof c s else tzero
def towX (x y : Rat) : Int := if x * x + y * y = 0 then 8 else 0
def towT (x y : Rat) : TN := if x * x + y * y = 0 then tzero else if x = 0 then thalf else ⟨y / x, false⟩
theorem sign_zero {q : Rat} : q.num.sign = 0 ↔ q = 0 := by
 rw [Int.sign_eq_zero_iff_zero, Rat.num_eq_zero]
theorem tow_eq {x y : Rat} (h : x * x + y * y ≠ 0) : tof ((x * x - y * y) / (x * x + y * y)) ((x * y + x * y) / (x * x + y * y)) = towT x y := by
 unfold tof towT
 rw [if_neg h]
 have h2 : (x * x + y * y) * (x * x + y * y)⁻¹ = 1 := Rat.mul_inv_cancel _ h
 by_cases hx : x = 0
 ·rw [if_pos hx, if_pos]
  subst hx
  rw [Rat.div_def]
  grind
 ·rw [if_neg hx, if_neg]
  ·congr 1
   have hxx : x * x⁻¹ = 1 := Rat.mul_inv_cancel _ hx
   have h3 : 1 + (x * x - y * y) / (x * x + y * y) = (x * x + x * x) / (x * x + y * y) := by
    rw [Rat.div_def, Rat.div_def]; grind
   have h4 : (x * x + x * x) ≠ 0 := by
    intro e
    have : x * x = 0 := by grind
    rcases Rat.mul_eq_zero.1 this with e | e <;> exact hx e
   have h5 : (x * x + x * x) * (x * x + x * x)⁻¹ = 1 := Rat.mul_inv_cancel _ h4
   rw [h3, Rat.div_def, Rat.div_def, Rat.div_def, Rat.div_def, Rat.inv_mul_rev, Rat.inv_inv]
   grind
  ·intro e
   rw [Rat.div_def] at e
   have : x * x = 0 := by grind
   rcases Rat.mul_eq_zero.1 this with e | e <;> exact hx e
theorem u_square (w : World) (b A n c D m e q k) (h : QZ w b A n c D m e q k) (b' A' n' c' D' m' e' q' k') (h' : QZ w b' A' n' c' D' m' e' q' k') (h0 : 0 < k) (hk : k ≤ 100000) (h0' : 0 < k') (hk' : k' ≤ 100000) :
    Calls Tryz.prog 33 #[.agg #[.bool b, .slice A n c, .slice D m e], .agg #[.bool b', .slice A' n' c', .slice D' m' e']] w (RetF w (q * q + q' * q') (k + k + (k' + k') + 1)) := by
  go_enter Tryz.func33, Tryz.ntmps33
  go_wp2_with fail
  have p1 := ((((Kp.refl w).alloc (.cells #[.bool b, .slice A n c, .slice D m e] 24)).alloc (.cells #[.bool b', .slice A' n' c', .slice D' m' e'] 24)).alloc (.cells #[.bool false, .slice none 0 0, .slice none 0 0] 24))
  have bw1 := ((((brefl w).alloc (by first | omega | (simp <;> omega)) (.cells #[.bool b, .slice A n c, .slice D m e] 24)).alloc (by first | omega | (simp <;> omega)) (.cells #[.bool b', .slice A' n' c', .slice D' m' e'] 24)).alloc (by first | omega | (simp <;> omega)) (.cells #[.bool false, .slice none 0 0, .slice none 0 0] 24))
  have x1a : Blk (((w.alloc (.cells #[.bool b, .slice A n c, .slice D m e] 24)).alloc (.cells #[.bool b', .slice A' n' c', .slice D' m' e'] 24)).alloc (.cells #[.bool false, .slice none 0 0, .slice none 0 0] 24)) w.heap.size 24 #[.bool b, .slice A n c, .slice D m e] := (((blkAt _ _ _ (by simp)).alloc (.cells #[.bool b', .slice A' n' c', .slice D' m' e'] 24)).alloc (.cells #[.bool false, .slice none 0 0, .slice none 0 0] 24))
  have x1b : Blk (((w.alloc (.cells #[.bool b, .slice A n c, .slice D m e] 24)).alloc (.cells #[.bool b', .slice A' n' c', .slice D' m' e'] 24)).alloc (.cells #[.bool false, .slice none 0 0, .slice none 0 0] 24)) (w.heap.size + 1) 24 #[.bool b', .slice A' n' c', .slice D' m' e'] := ((blkAt _ _ _ (by simp)).alloc (.cells #[.bool false, .slice none 0 0, .slice none 0 0] 24))
  have x1c : Blk (((w.alloc (.cells #[.bool b, .slice A n c, .slice D m e] 24)).alloc (.cells #[.bool b', .slice A' n' c', .slice D' m' e'] 24)).alloc (.cells #[.bool false, .slice none 0 0, .slice none 0 0] 24)) (w.heap.size + 1 + 1) 24 #[.bool false, .slice none 0 0, .slice none 0 0] := (blkAt _ _ _ (by simp))
  have lw1 : w.heap.size + 3 ≤ (((w.alloc (.cells #[.bool b, .slice A n c, .slice D m e] 24)).alloc (.cells #[.bool b', .slice A' n' c', .slice D' m' e'] 24)).alloc (.cells #[.bool false, .slice none 0 0, .slice none 0 0] 24)).heap.size := by simp
  generalize hE1 : (((w.alloc (.cells #[.bool b, .slice A n c, .slice D m e] 24)).alloc (.cells #[.bool b', .slice A' n' c', .slice D' m' e'] 24)).alloc (.cells #[.bool false, .slice none 0 0, .slice none 0 0] 24)) = w1 at p1 bw1 lw1 x1a x1b x1c ⊢
  clear hE1
  replace h := h.keep p1
  replace h' := h'.keep p1
  have cx1a := x1a.c3
  have lx1a := lts0 x1a.lt
  have cx1b := x1b.c3
  have lx1b := lts1 x1b.lt
  obtain ⟨cx1ca, cx1cb, cx1cc⟩ := x1c.c3
  obtain ⟨fx1ca, fx1cb, fx1cc⟩ := x1c.f3
  have lx1c := lts2 x1c.lt
  have nfx1_0_0 : ¬ w.heap.size = w.heap.size + 1 + 1 := by omega
  have nex1_0_0 : ¬ w.heap.size = w.heap.size + 2 := by omega
  have nfx1_1_0 : ¬ w.heap.size + 1 = w.heap.size + 1 + 1 := by omega
  have nex1_1_0 : ¬ w.heap.size = w.heap.size + 1 := by omega
  go_region_held3 (fun w' => SeesX w1.heap.size (w.heap.size + 1 + 1) w1 w') (first | with_reducible exact SeesX.of (Nat.le_refl _) (by assumption) | with_reducible exact SeesX.of (Nat.le_refl _) (brefl _).drew | with_reducible exact (SeesX.set (SeesX.set (SeesX.set (SeesX.of (Nat.le_refl _) (by assumption))))) | with_reducible exact (SeesX.set (SeesX.set (SeesX.of (Nat.le_refl _) (by assumption)))) | with_reducible exact (SeesX.set (SeesX.of (Nat.le_refl _) (by assumption))) | exact SeesX.of (Nat.le_refl _) (below_drewN (brefl _) 1) | exact SeesX.of (Nat.le_refl _) (below_drewN (by assumption) _))
    (first
      | (go_at_call 63; (with_reducible refine (g_mul _ b A n c D m e (q) (k) ?_ b A n c D m e (q) (k) ?_ ?_ ?_ ?_ ?_).mono ?_); (exact h); (exact h); (iterate 4 omega); rintro e w2 ⟨b2, A2, n2, c2, A'2, n'2, c'2, rfl, h2, hb2⟩; replace hb2 := bnext (below_drewN (brefl _) 1) hb2; have q2 : Below w1.heap.size w1 w2 := bnext (brefl w1) hb2; replace h := h.belw hb2; replace h' := h'.belw hb2)
      | (go_at_call 63; (with_reducible refine (g_mul _ b' A' n' c' D' m' e' (q') (k') ?_ b' A' n' c' D' m' e' (q') (k') ?_ ?_ ?_ ?_ ?_).mono ?_); (exact h'); (exact h'); (iterate 4 omega); rintro e w3 ⟨b3, A3, n3, c3, A'3, n'3, c'3, rfl, h3, hb3⟩; have q3 : Below w1.heap.size w1 w3 := bnext q2 hb3; replace h := h.belw hb3; replace h' := h'.belw hb3; replace h2 := h2.belw hb3)
      | (go_at_call 37; (with_reducible refine (g_add _ b2 A2 n2 c2 A'2 n'2 c'2 ((q) * (q)) ((k) + (k)) ?_ b3 A3 n3 c3 A'3 n'3 c'3 ((q') * (q')) ((k') + (k')) ?_ ?_ ?_ ?_ ?_).mono ?_); (exact h2.qz); (exact h3.qz); (iterate 4 omega); rintro e w4 ⟨b4, A4, n4, c4, A'4, n'4, c'4, rfl, h4, hb4⟩; have q4 : Below w1.heap.size w1 w4 := bnext q3 hb4; replace h := h.belw hb4; replace h' := h'.belw hb4; replace h2 := h2.belw hb4; replace h3 := h3.belw hb4; have x1c := x1c.b q4; obtain ⟨cx1ca, cx1cb, cx1cc⟩ := x1c.c3; obtain ⟨fx1ca, fx1cb, fx1cc⟩ := x1c.f3))
  have bw4 := bw1.trans (q4.mono bw1.size)
  clear cx1a lx1a cx1b lx1b cx1ca fx1ca cx1cb fx1cb cx1cc fx1cc lx1c
  replace x1a := x1a.b q4
  replace x1b := x1b.b q4
  have lw4 := q4.size
  obtain ⟨cx1ca, cx1cb, cx1cc⟩ := x1c.c3
  obtain ⟨fx1ca, fx1cb, fx1cc⟩ := x1c.f3
  go_wp2_with fail
  refine bodyPost_ret (v := .agg #[.bool b4, .slice A4 n4 c4, .slice A'4 n'4 c'4]) (by simp [results, Tryz.results33, go_sem, *] <;> trivial) rfl ?_
  exact ⟨b4, A4, n4, c4, A'4, n'4, c'4, rfl, h4.keep ((((Kp.refl w4).sb (w.heap.size + 1 + 1) 0 x1c.box (by decide) (.bool b4)).sb (w.heap.size + 1 + 1) 1 (x1c.box.set ⟨w.heap.size + 1 + 1, 0, none⟩ (.bool b4)) (by decide) (.slice A4 n4 c4)).sb (w.heap.size + 1 + 1) 2 ((x1c.box.set ⟨w.heap.size + 1 + 1, 0, none⟩ (.bool b4)).set ⟨w.heap.size + 1 + 1, 1, none⟩ (.slice A4 n4 c4)) (by decide) (.slice A'4 n'4 c'4)), (((bw4.sc (w.heap.size + 1 + 1) 0 (by omega) (.bool b4)).sc (w.heap.size + 1 + 1) 1 (by omega) (.slice A4 n4 c4)).sc (w.heap.size + 1 + 1) 2 (by omega) (.slice A'4 n'4 c'4))⟩
theorem t_Of_bad (w : World) (b A n c D m e q k) (h : QZ w b A n c D m e q k) (b' A' n' c' D' m' e' q' k') (h' : QZ w b' A' n' c' D' m' e' q' k') (h0 : 0 < k) (hk : k ≤ 100000) (h0' : 0 < k') (hk' : k' ≤ 100000) (hc : ¬ onC q q') :
    Calls Tryz.prog 7 #[.agg #[.bool b, .slice A n c, .slice D m e], .agg #[.bool b', .slice A' n' c', .slice D' m' e']] w (RetTe w (.iface 57 (.int .i64 2)) tzero 1) := by
  obtain ⟨s, hs⟩ : ∃ s, rcmp (q * q + q' * q') ((1 : Int) : Rat) = s := ⟨_, rfl⟩
  have e0 : ((s : Int) == 0) = false := beq_eq_false_iff_ne.2 (fun e => hc (rcmp_zero.1 (hs.trans e)))
  have e1 : ((s : Int) != 0) = true := bne_iff_ne.2 (beq_eq_false_iff_ne.1 e0)
  have HS := Lib.hid hs
  clear hs
  clear hc
  go_enter Tryz.func7, Tryz.ntmps7
  go_wp2_with fail
  have p1 := ((((Kp.refl w).alloc (.cells #[.bool b, .slice A n c, .slice D m e] 24)).alloc (.cells #[.bool b', .slice A' n' c', .slice D' m' e'] 24)).alloc (.cells #[.bool false, .slice none 0 0, .slice none 0 0, .bool false] 28))
  have bw1 := ((((brefl w).alloc (by first | omega | (simp <;> omega)) (.cells #[.bool b, .slice A n c, .slice D m e] 24)).alloc (by first | omega | (simp <;> omega)) (.cells #[.bool b', .slice A' n' c', .slice D' m' e'] 24)).alloc (by first | omega | (simp <;> omega)) (.cells #[.bool false, .slice none 0 0, .slice none 0 0, .bool false] 28))
  have x1a : Blk (((w.alloc (.cells #[.bool b, .slice A n c, .slice D m e] 24)).alloc (.cells #[.bool b', .slice A' n' c', .slice D' m' e'] 24)).alloc (.cells #[.bool false, .slice none 0 0, .slice none 0 0, .bool false] 28)) w.heap.size 24 #[.bool b, .slice A n c, .slice D m e] := (((blkAt _ _ _ (by simp)).alloc (.cells #[.bool b', .slice A' n' c', .slice D' m' e'] 24)).alloc (.cells #[.bool false, .slice none 0 0, .slice none 0 0, .bool false] 28))
  have x1b : Blk (((w.alloc (.cells #[.bool b, .slice A n c, .slice D m e] 24)).alloc (.cells #[.bool b', .slice A' n' c', .slice D' m' e'] 24)).alloc (.cells #[.bool false, .slice none 0 0, .slice none 0 0, .bool false] 28)) (w.heap.size + 1) 24 #[.bool b', .slice A' n' c', .slice D' m' e'] := ((blkAt _ _ _ (by simp)).alloc (.cells #[.bool false, .slice none 0 0, .slice none 0 0, .bool false] 28))
  have x1c : Blk (((w.alloc (.cells #[.bool b, .slice A n c, .slice D m e] 24)).alloc (.cells #[.bool b', .slice A' n' c', .slice D' m' e'] 24)).alloc (.cells #[.bool false, .slice none 0 0, .slice none 0 0, .bool false] 28)) (w.heap.size + 1 + 1) 28 #[.bool false, .slice none 0 0, .slice none 0 0, .bool false] := (blkAt _ _ _ (by simp))
  have lw1 : w.heap.size + 3 ≤ (((w.alloc (.cells #[.bool b, .slice A n c, .slice D m e] 24)).alloc (.cells #[.bool b', .slice A' n' c', .slice D' m' e'] 24)).alloc (.cells #[.bool false, .slice none 0 0, .slice none 0 0, .bool false] 28)).heap.size := by simp
  generalize hE1 : (((w.alloc (.cells #[.bool b, .slice A n c, .slice D m e] 24)).alloc (.cells #[.bool b', .slice A' n' c', .slice D' m' e'] 24)).alloc (.cells #[.bool false, .slice none 0 0, .slice none 0 0, .bool false] 28)) = w1 at p1 bw1 lw1 x1a x1b x1c ⊢
  clear hE1
  replace h := h.keep p1
  replace h' := h'.keep p1
  have cx1a := x1a.c3
  have lx1a := lts0 x1a.lt
  have cx1b := x1b.c3
  have lx1b := lts1 x1b.lt
  obtain ⟨lx1ca, lx1cb, lx1cc, lx1cd⟩ := lts2 x1c.lt
  go_region_held3 (fun w' => Sees w1.heap.size w1 w') (first | with_reducible exact Sees.of (Nat.le_refl _) (by assumption) | with_reducible exact Sees.of (Nat.le_refl _) (brefl _).drew | exact Sees.of (Nat.le_refl _) (below_drewN (brefl _) 1) | exact Sees.of (Nat.le_refl _) (below_drewN (by assumption) _))
    (first
      | (go_at_call 24; (with_reducible refine (f_mul _ b A n c D m e (q) (k) ?_ b A n c D m e (q) (k) ?_ ?_ ?_ ?_ ?_).mono ?_); (exact h); (exact h); (iterate 4 omega); rintro e w2 ⟨b2, A2, n2, c2, A'2, n'2, c'2, rfl, h2, hb2⟩; replace hb2 := bnext (below_drewN (brefl _) 1) hb2; have q2 : Below w1.heap.size w1 w2 := bnext (brefl w1) hb2; replace h := h.belw hb2; replace h' := h'.belw hb2)
      | (go_at_call 24; (with_reducible refine (f_mul _ b' A' n' c' D' m' e' (q') (k') ?_ b' A' n' c' D' m' e' (q') (k') ?_ ?_ ?_ ?_ ?_).mono ?_); (exact h'); (exact h'); (iterate 4 omega); rintro e w3 ⟨b3, A3, n3, c3, A'3, n'3, c'3, rfl, h3, hb3⟩; have q3 : Below w1.heap.size w1 w3 := bnext q2 hb3; replace h := h.belw hb3; replace h' := h'.belw hb3; replace h2 := h2.belw hb3)
      | (go_at_call 23; (with_reducible refine (f_add _ b2 A2 n2 c2 A'2 n'2 c'2 ((q) * (q)) ((k) + (k)) ?_ b3 A3 n3 c3 A'3 n'3 c'3 ((q') * (q')) ((k') + (k')) ?_ ?_ ?_ ?_ ?_).mono ?_); (exact h2.qz); (exact h3.qz); (iterate 4 omega); rintro e w4 ⟨b4, A4, n4, c4, A'4, n'4, c'4, rfl, h4, hb4⟩; have q4 : Below w1.heap.size w1 w4 := bnext q3 hb4; replace h := h.belw hb4; replace h' := h'.belw hb4; replace h2 := h2.belw hb4; replace h3 := h3.belw hb4)
      | (go_at_call 25; (with_reducible refine (f_of _ (1) ?_ ?_).mono ?_); omega; omega; rintro e w5 ⟨b5, A5, n5, c5, A'5, n'5, c'5, rfl, h5, hb5⟩; have q5 : Below w1.heap.size w1 w5 := bnext q4 hb5; replace h := h.belw hb5; replace h' := h'.belw hb5; replace h2 := h2.belw hb5; replace h3 := h3.belw hb5; replace h4 := h4.belw hb5)
      | (go_at_call 22; (with_reducible refine (f_cmp_v _ b4 A4 n4 c4 A'4 n'4 c'4 (((q) * (q)) + ((q') * (q'))) (((k) + (k)) + ((k') + (k')) + 1) ?_ b5 A5 n5 c5 A'5 n'5 c'5 (((1 : Int) : Rat)) (1) ?_ s ?_ ?_ ?_ ?_ ?_).mono ?_); (exact h4.qz); (exact h5.qz); (exact HS.out); (iterate 4 omega); rintro e w6 ⟨rfl, hb6⟩; have q6 : Below w1.heap.size w1 w6 := bnext q5 hb6; replace h := h.belw hb6; replace h' := h'.belw hb6; replace h2 := h2.belw hb6; replace h3 := h3.belw hb6; replace h4 := h4.belw hb6; replace h5 := h5.belw hb6))
  have bw6 := bw1.trans (q6.mono bw1.size)
  clear cx1a lx1a cx1b lx1b lx1ca lx1cb lx1cc lx1cd
  replace x1a := x1a.b q6
  replace x1b := x1b.b q6
  replace x1c := x1c.b q6
  have lw6 := q6.size
  have cx1c := x1c.c4
  have fx1c := x1c.f4
  obtain ⟨lx1ca, lx1cb, lx1cc, lx1cd⟩ := lts2 x1c.lt
  go_wp2_with fail
  refine bodyPost_ret (v := .tuple #[.agg #[.bool false, .slice none 0 0, .slice none 0 0, .bool false], .iface 57 (.int .i64 2)]) (by simp [results, Tryz.results7, go_sem, *] <;> trivial) rfl ?_
  have kp := (((((Kp.refl w6).sb (w.heap.size + 1 + 1) 0 x1c.box (by decide) (.bool false)).sb (w.heap.size + 1 + 1) 1 (x1c.box.set ⟨w.heap.size + 1 + 1, 0, none⟩ (.bool false)) (by decide) (.slice none 0 0)).sb (w.heap.size + 1 + 1) 2 ((x1c.box.set ⟨w.heap.size + 1 + 1, 0, none⟩ (.bool false)).set ⟨w.heap.size + 1 + 1, 1, none⟩ (.slice none 0 0)) (by decide) (.slice none 0 0)).sb (w.heap.size + 1 + 1) 3 (((x1c.box.set ⟨w.heap.size + 1 + 1, 0, none⟩ (.bool false)).set ⟨w.heap.size + 1 + 1, 1, none⟩ (.slice none 0 0)).set ⟨w.heap.size + 1 + 1, 2, none⟩ (.slice none 0 0)) (by decide) (.bool false))
  exact ⟨false, none, 0, 0, none, 0, 0, false, rfl, tv_zero _ _, ((((bw6.sc (w.heap.size + 1 + 1) 0 (by omega) (.bool false)).sc (w.heap.size + 1 + 1) 1 (by omega) (.slice none 0 0)).sc (w.heap.size + 1 + 1) 2 (by omega) (.slice none 0 0)).sc (w.heap.size + 1 + 1) 3 (by omega) (.bool false))⟩
theorem u_Of_bad (w : World) (b A n c D m e q k) (h : QZ w b A n c D m e q k) (b' A' n' c' D' m' e' q' k') (h' : QZ w b' A' n' c' D' m' e' q' k') (h0 : 0 < k) (hk : k ≤ 100000) (h0' : 0 < k') (hk' : k' ≤ 100000) (hc : ¬ onC q q') :
  Calls Tryz.prog 10 #[.agg #[.bool b, .slice A n c, .slice D m e], .agg #[.bool b', .slice A' n' c', .slice D' m' e']] w (RetTe w (.int .i64 2) tzero 1) := by
 obtain ⟨s, hs⟩ : ∃ s, rcmp (q * q + q' * q') ((1 : Int) : Rat) = s := ⟨_, rfl⟩
 have e0 : ((s : Int) == 0) = false := beq_eq_false_iff_ne.2 (fun e => hc (rcmp_zero.1 (hs.trans e)))
 have e1 : ((s : Int) != 0) = true := bne_iff_ne.2 (beq_eq_false_iff_ne.1 e0)
 have HS := Lib.hid hs
 clear hs
 clear hc
 go_enter Tryz.func10, Tryz.ntmps10
 go_wp2_with fail
 (with_reducible refine (u_square _ b A n c D m e (q) (k) ?_ b' A' n' c' D' m' e' (q') (k') ?_ ?_ ?_ ?_ ?_).mono ?_); (exact (h.belw ((((Below.refl _ _).alloc (Nat.le_refl _) _).alloc (by simp) _).alloc (by simp <;> omega) _))); (exact (h'.belw ((((Below.refl _ _).alloc (Nat.le_refl _) _).alloc (by simp) _).alloc (by simp <;> omega) _))); (iterate 4 omega); rintro e w1 ⟨b1, A1, n1, c1, A'1, n'1, c'1, rfl, h1, hb1⟩
 have q1 := hb1.q3
 replace h := h.belw q1
 replace h' := h'.belw q1
 have x1a : Blk w1 w.heap.size 24 #[.bool b, .slice A n c, .slice D m e] := (((blkAt _ _ _ (by simp)).alloc _).alloc _).below hb1 (by simp <;> omega)
 have x1b := ((blkAt _ _ _ (g := w.heap.size + 1) (by simp)).alloc _).below hb1 (by simp <;> omega)
 have x1c := (blkAt _ _ _ (g := w.heap.size + 1 + 1) (by simp)).below hb1 (by simp)
 have bw1 := (brefl w).trans (q1.mono (brefl w).size)
 have lw1 := hb1.l3
 clear q1
 go_wp2_with fail
 (with_reducible refine (u_one _).mono ?_); rintro e w2 ⟨b2, A2, n2, c2, A'2, n'2, c'2, rfl, h2, q2⟩
 replace h := h.belw q2
 replace h' := h'.belw q2
 replace h1 := h1.belw q2
 replace x1a := x1a.b q2
 replace x1b := x1b.b q2
 replace x1c := x1c.b q2
 have bw2 := bw1.trans (q2.mono bw1.size)
 have lw2 := q2.size
 clear q2 bw1
 go_wp2_with fail
 (with_reducible refine (g_cmp_v _ b1 A1 n1 c1 A'1 n'1 c'1 ((q) * (q) + (q') * (q')) ((k) + (k) + ((k') + (k')) + 1) ?_ b2 A2 n2 c2 A'2 n'2 c'2 (((1 : Int) : Rat)) (1) ?_ s ?_ ?_ ?_ ?_ ?_).mono ?_); (exact h1.qz); (exact h2.qz); (exact HS.out); (iterate 4 omega); rintro e w3 ⟨rfl, q3⟩
 replace h := h.belw q3
 replace h' := h'.belw q3
 replace h1 := h1.belw q3
 replace h2 := h2.belw q3
 replace x1a := x1a.b q3
 replace x1b := x1b.b q3
 replace x1c := x1c.b q3
 have bw3 := bw2.trans (q3.mono bw2.size)
 have lw3 := q3.size
 clear q3 bw2
 have cx1c := x1c.c4
 have fx1c := x1c.f4
 have lx1c := lts2 x1c.lt
 go_wp2_with fail
 refine bodyPost_ret (v := .tuple #[.agg #[.bool false, .slice none 0 0, .slice none 0 0, .bool false], .int .i64 2]) (by simp [results, Tryz.results10, go_sem, *] <;> trivial) rfl ?_
 have kp := (((((Kp.refl w3).sb (w.heap.size + 1 + 1) 0 x1c.box (by decide) (.bool false)).sb (w.heap.size + 1 + 1) 1 (x1c.box.set ⟨w.heap.size + 1 + 1, 0, none⟩ (.bool false)) (by decide) (.slice none 0 0)).sb (w.heap.size + 1 + 1) 2 ((x1c.box.set ⟨w.heap.size + 1 + 1, 0, none⟩ (.bool false)).set ⟨w.heap.size + 1 + 1, 1, none⟩ (.slice none 0 0)) (by decide) (.slice none 0 0)).sb (w.heap.size + 1 + 1) 3 (((x1c.box.set ⟨w.heap.size + 1 + 1, 0, none⟩ (.bool false)).set ⟨w.heap.size + 1 + 1, 1, none⟩ (.slice none 0 0)).set ⟨w.heap.size + 1 + 1, 2, none⟩ (.slice none 0 0)) (by decide) (.bool false))
 exact ⟨false, none, 0, 0, none, 0, 0, false, rfl, tv_zero _ _, ((((bw3.sc (w.heap.size + 1 + 1) 0 (by omega) (.bool false)).sc (w.heap.size + 1 + 1) 1 (by omega) (.slice none 0 0)).sc (w.heap.size + 1 + 1) 2 (by omega) (.slice none 0 0)).sc (w.heap.size + 1 + 1) 3 (by omega) (.bool false))⟩
theorem u_Of_half (w : World) (b A n c D m e q k) (h : QZ w b A n c D m e q k) (b' A' n' c' D' m' e' q' k') (h' : QZ w b' A' n' c' D' m' e' q' k') (h0 : 0 < k) (hk : k ≤ 100000) (h0' : 0 < k') (hk' : k' ≤ 100000) (hc : onC q q') (hz : q = ((-1 : Int) : Rat)) :
    Calls Tryz.prog 10 #[.agg #[.bool b, .slice A n c, .slice D m e], .agg #[.bool b', .slice A' n' c', .slice D' m' e']] w (RetTe w (.int .i64 0) (tof q q') (k + k' + 2)) := by
  have hs := rcmp_zero.2 hc
  have hs2 := rcmp_zero.2 hz
  have ht : tof q q' = thalf := by unfold tof; rw [if_pos (show q = -1 from hz)]
  rw [ht]
  have HS := Lib.hid hs
  have HS2 := Lib.hid hs2
  clear hs hs2
  clear hc hz ht
  go_enter Tryz.func10, Tryz.ntmps10
  go_wp2_with fail
  (with_reducible refine (u_square _ b A n c D m e (q) (k) ?_ b' A' n' c' D' m' e' (q') (k') ?_ ?_ ?_ ?_ ?_).mono ?_); (exact (h.belw ((((Below.refl _ _).alloc (Nat.le_refl _) _).alloc (by simp) _).alloc (by simp <;> omega) _))); (exact (h'.belw ((((Below.refl _ _).alloc (Nat.le_refl _) _).alloc (by simp) _).alloc (by simp <;> omega) _))); (iterate 4 omega); rintro e w1 ⟨b1, A1, n1, c1, A'1, n'1, c'1, rfl, h1, hb1⟩
  have q1 := hb1.q3
  replace h := h.belw q1
  replace h' := h'.belw q1
  have x1a : Blk w1 w.heap.size 24 #[.bool b, .slice A n c, .slice D m e] := (((blkAt _ _ _ (by simp)).alloc _).alloc _).below hb1 (by simp <;> omega)
  have x1b := ((blkAt _ _ _ (g := w.heap.size + 1) (by simp)).alloc _).below hb1 (by simp <;> omega)
  have x1c := (blkAt _ _ _ (g := w.heap.size + 1 + 1) (by simp)).below hb1 (by simp)
  have bw1 := (brefl w).trans (q1.mono (brefl w).size)
  have lw1 := hb1.l3
  clear q1
  go_wp2_with fail
  (with_reducible refine (u_one _).mono ?_); rintro e w2 ⟨b2, A2, n2, c2, A'2, n'2, c'2, rfl, h2, q2⟩
  replace h := h.belw q2
  replace h' := h'.belw q2
  replace h1 := h1.belw q2
  replace x1a := x1a.b q2
  replace x1b := x1b.b q2
  replace x1c := x1c.b q2
  have bw2 := bw1.trans (q2.mono bw1.size)
  have lw2 := q2.size
  clear q2 bw1
  go_wp2_with fail
  (with_reducible refine (g_cmp_v _ b1 A1 n1 c1 A'1 n'1 c'1 ((q) * (q) + (q') * (q')) ((k) + (k) + ((k') + (k')) + 1) ?_ b2 A2 n2 c2 A'2 n'2 c'2 (((1 : Int) : Rat)) (1) ?_ 0 ?_ ?_ ?_ ?_ ?_).mono ?_); (exact h1.qz); (exact h2.qz); (exact HS.out); (iterate 4 omega); rintro e w3 ⟨rfl, q3⟩
  replace h := h.belw q3
  replace h' := h'.belw q3
  replace h1 := h1.belw q3
  replace h2 := h2.belw q3
  replace x1a := x1a.b q3
  replace x1b := x1b.b q3
  replace x1c := x1c.b q3
  have bw3 := bw2.trans (q3.mono bw2.size)
  have lw3 := q3.size
  clear q3 bw2
  have cx1a := x1a.c3
  have lx1a := lts0 x1a.lt
  have lx1b := lts1 x1b.lt
  obtain ⟨lx1ca, lx1cb, lx1cc, lx1cd⟩ := lts2 x1c.lt
  go_wp2_with fail
  go_region_held3 (fun w' => Sees w3.heap.size w3 w') (first | with_reducible exact Sees.of (Nat.le_refl _) (by assumption) | with_reducible exact Sees.of (Nat.le_refl _) (brefl _).drew | exact Sees.of (Nat.le_refl _) (below_drewN (brefl _) 1) | exact Sees.of (Nat.le_refl _) (below_drewN (by assumption) _))
    (first
      | (go_at_call 35; (with_reducible refine (g_of _ ((-1)) ?_ ?_).mono ?_); omega; omega; rintro e w4 ⟨b4, A4, n4, c4, A'4, n'4, c'4, rfl, h4, hb4⟩; replace hb4 := bnext (below_drewN (brefl _) 1) hb4; have q4 : Below w3.heap.size w3 w4 := bnext (brefl w3) hb4; replace h := h.belw hb4; replace h' := h'.belw hb4; replace h1 := h1.belw hb4; replace h2 := h2.belw hb4)
      | (go_at_call 32; (with_reducible refine (g_cmp_v _ b A n c D m e (q) (k) ?_ b4 A4 n4 c4 A'4 n'4 c'4 ((((-1) : Int) : Rat)) (1) ?_ 0 ?_ ?_ ?_ ?_ ?_).mono ?_); (exact h); (exact h4.qz); (exact HS2.out); (iterate 4 omega); rintro e w5 ⟨rfl, hb5⟩; have q5 : Below w3.heap.size w3 w5 := bnext q4 hb5; replace h := h.belw hb5; replace h' := h'.belw hb5; replace h1 := h1.belw hb5; replace h2 := h2.belw hb5; replace h4 := h4.belw hb5))
  have bw5 := bw3.trans (q5.mono bw3.size)
  clear cx1a lx1a lx1b lx1ca lx1cb lx1cc lx1cd
  replace x1a := x1a.b q5
  replace x1b := x1b.b q5
  replace x1c := x1c.b q5
  have lw5 := q5.size
  have cx1c := x1c.c4
  have fx1c := x1c.f4
  obtain ⟨lx1ca, lx1cb, lx1cc, lx1cd⟩ := lts2 x1c.lt
  go_wp2_with fail
  refine bodyPost_ret (v := .tuple #[.agg #[.bool false, .slice none 0 0, .slice none 0 0, .bool true], .int .i64 0]) (by simp [results, Tryz.results10, go_sem, *] <;> trivial) rfl ?_
  have kp := (((((Kp.refl w5).sb (w.heap.size + 1 + 1) 0 x1c.box (by decide) (.bool false)).sb (w.heap.size + 1 + 1) 1 (x1c.box.set ⟨w.heap.size + 1 + 1, 0, none⟩ (.bool false)) (by decide) (.slice none 0 0)).sb (w.heap.size + 1 + 1) 2 ((x1c.box.set ⟨w.heap.size + 1 + 1, 0, none⟩ (.bool false)).set ⟨w.heap.size + 1 + 1, 1, none⟩ (.slice none 0 0)) (by decide) (.slice none 0 0)).sb (w.heap.size + 1 + 1) 3 (((x1c.box.set ⟨w.heap.size + 1 + 1, 0, none⟩ (.bool false)).set ⟨w.heap.size + 1 + 1, 1, none⟩ (.slice none 0 0)).set ⟨w.heap.size + 1 + 1, 2, none⟩ (.slice none 0 0)) (by decide) (.bool true))
  exact ⟨false, none, 0, 0, none, 0, 0, true, rfl, tv_half _ _, ((((bw5.sc (w.heap.size + 1 + 1) 0 (by omega) (.bool false)).sc (w.heap.size + 1 + 1) 1 (by omega) (.slice none 0 0)).sc (w.heap.size + 1 + 1) 2 (by omega) (.slice none 0 0)).sc (w.heap.size + 1 + 1) 3 (by omega) (.bool true))⟩
theorem u_Of_good (w : World) (b A n c D m e q k) (h : QZ w b A n c D m e q k) (b' A' n' c' D' m' e' q' k') (h' : QZ w b' A' n' c' D' m' e' q' k') (h0 : 0 < k) (hk : k ≤ 100000) (h0' : 0 < k') (hk' : k' ≤ 100000) (hc : onC q q') (hz : ¬ q = ((-1 : Int) : Rat)) :
    Calls Tryz.prog 10 #[.agg #[.bool b, .slice A n c, .slice D m e], .agg #[.bool b', .slice A' n' c', .slice D' m' e']] w (RetTe w (.int .i64 0) (tof q q') (k + k' + 2)) := by
  have hs := rcmp_zero.2 hc
  obtain ⟨s, hs2⟩ : ∃ s, rcmp q ((-1 : Int) : Rat) = s := ⟨_, rfl⟩
  have e0 : ((s : Int) == 0) = false := beq_eq_false_iff_ne.2 (fun e => hz (rcmp_zero.1 (hs2.trans e)))
  have ht : tof q q' = ⟨q' / (((1 : Int) : Rat) + q), false⟩ := by unfold tof; rw [if_neg (show ¬ q = -1 from hz)]; rfl
  have hne : ((1 : Int) : Rat) + q ≠ 0 := fun e => hz (by have h9 : ((1 : Int) : Rat) = 1 := rfl; have h8 : ((-1 : Int) : Rat) = -1 := rfl; rw [h9] at e; rw [h8]; grind)
  have HNE := Lib.hid hne
  clear hne
  rw [ht]
  have HS := Lib.hid hs
  have HS2 := Lib.hid hs2
  clear hs hs2
  clear hc hz ht
  go_enter Tryz.func10, Tryz.ntmps10
  go_wp2_with fail
  (with_reducible refine (u_square _ b A n c D m e (q) (k) ?_ b' A' n' c' D' m' e' (q') (k') ?_ ?_ ?_ ?_ ?_).mono ?_); (exact (h.belw ((((Below.refl _ _).alloc (Nat.le_refl _) _).alloc (by simp) _).alloc (by simp <;> omega) _))); (exact (h'.belw ((((Below.refl _ _).alloc (Nat.le_refl _) _).alloc (by simp) _).alloc (by simp <;> omega) _))); (iterate 4 omega); rintro e w1 ⟨b1, A1, n1, c1, A'1, n'1, c'1, rfl, h1, hb1⟩
  have q1 := hb1.q3
  replace h := h.belw q1
  replace h' := h'.belw q1
  have x1a : Blk w1 w.heap.size 24 #[.bool b, .slice A n c, .slice D m e] := (((blkAt _ _ _ (by simp)).alloc _).alloc _).below hb1 (by simp <;> omega)
  have x1b := ((blkAt _ _ _ (g := w.heap.size + 1) (by simp)).alloc _).below hb1 (by simp <;> omega)
  have x1c := (blkAt _ _ _ (g := w.heap.size + 1 + 1) (by simp)).below hb1 (by simp)
  have bw1 := (brefl w).trans (q1.mono (brefl w).size)
  have lw1 := hb1.l3
  clear q1
  go_wp2_with fail
  (with_reducible refine (u_one _).mono ?_); rintro e w2 ⟨b2, A2, n2, c2, A'2, n'2, c'2, rfl, h2, q2⟩
  replace h := h.belw q2
  replace h' := h'.belw q2
  replace h1 := h1.belw q2
  replace x1a := x1a.b q2
  replace x1b := x1b.b q2
  replace x1c := x1c.b q2
  have bw2 := bw1.trans (q2.mono bw1.size)
  have lw2 := q2.size
  clear q2 bw1
  go_wp2_with fail
  (with_reducible refine (g_cmp_v _ b1 A1 n1 c1 A'1 n'1 c'1 ((q) * (q) + (q') * (q')) ((k) + (k) + ((k') + (k')) + 1) ?_ b2 A2 n2 c2 A'2 n'2 c'2 (((1 : Int) : Rat)) (1) ?_ 0 ?_ ?_ ?_ ?_ ?_).mono ?_); (exact h1.qz); (exact h2.qz); (exact HS.out); (iterate 4 omega); rintro e w3 ⟨rfl, q3⟩
  replace h := h.belw q3
  replace h' := h'.belw q3
  replace h1 := h1.belw q3
  replace h2 := h2.belw q3
  replace x1a := x1a.b q3
  replace x1b := x1b.b q3
  replace x1c := x1c.b q3
  have bw3 := bw2.trans (q3.mono bw2.size)
  have lw3 := q3.size
  clear q3 bw2
  obtain ⟨cx1aa, cx1ab, cx1ac⟩ := x1a.c3
  obtain ⟨lx1aa, lx1ab, lx1ac, lx1ad⟩ := lts0 x1a.lt
  obtain ⟨lx1ba, lx1bb, lx1bc, lx1bd⟩ := lts1 x1b.lt
  obtain ⟨lx1ca, lx1cb, lx1cc, lx1cd⟩ := lts2 x1c.lt
  go_wp2_with fail
  go_region_held3 (fun w' => Sees w3.heap.size w3 w') (first | with_reducible exact Sees.of (Nat.le_refl _) (by assumption) | with_reducible exact Sees.of (Nat.le_refl _) (brefl _).drew | exact Sees.of (Nat.le_refl _) (below_drewN (brefl _) 1) | exact Sees.of (Nat.le_refl _) (below_drewN (by assumption) _))
    (first
      | (go_at_call 35; (with_reducible refine (g_of _ ((-1)) ?_ ?_).mono ?_); omega; omega; rintro e w4 ⟨b4, A4, n4, c4, A'4, n'4, c'4, rfl, h4, hb4⟩; replace hb4 := bnext (below_drewN (brefl _) 1) hb4; have q4 : Below w3.heap.size w3 w4 := bnext (brefl w3) hb4; replace h := h.belw hb4; replace h' := h'.belw hb4; replace h1 := h1.belw hb4; replace h2 := h2.belw hb4)
      | (go_at_call 32; (with_reducible refine (g_cmp_v _ b A n c D m e (q) (k) ?_ b4 A4 n4 c4 A'4 n'4 c'4 ((((-1) : Int) : Rat)) (1) ?_ s ?_ ?_ ?_ ?_ ?_).mono ?_); (exact h); (exact h4.qz); (exact HS2.out); (iterate 4 omega); rintro e w5 ⟨rfl, hb5⟩; have q5 : Below w3.heap.size w3 w5 := bnext q4 hb5; replace h := h.belw hb5; replace h' := h'.belw hb5; replace h1 := h1.belw hb5; replace h2 := h2.belw hb5; replace h4 := h4.belw hb5))
  have bw5 := bw3.trans (q5.mono bw3.size)
  clear cx1aa cx1ab cx1ac lx1aa lx1ab lx1ac lx1ad lx1ba lx1bb lx1bc lx1bd lx1ca lx1cb lx1cc lx1cd
  replace x1a := x1a.b q5
  replace x1b := x1b.b q5
  replace x1c := x1c.b q5
  have lw5 := q5.size
  obtain ⟨cx1aa, cx1ab, cx1ac⟩ := x1a.c3
  obtain ⟨lx1aa, lx1ab, lx1ac, lx1ad⟩ := lts0 x1a.lt
  have cx1b := x1b.c3
  obtain ⟨lx1ba, lx1bb, lx1bc, lx1bd⟩ := lts1 x1b.lt
  obtain ⟨cx1ca, cx1cb, cx1cc, cx1cd⟩ := x1c.c4
  obtain ⟨fx1ca, fx1cb, fx1cc, fx1cd⟩ := x1c.f4
  obtain ⟨lx1ca, lx1cb, lx1cc, lx1cd⟩ := lts2 x1c.lt
  go_wp2_with fail
  have nfx1_0_0 : ¬ w.heap.size = w.heap.size + 1 + 1 := by omega
  have nex1_0_0 : ¬ w.heap.size = w.heap.size + 2 := by omega
  have nfx1_1_0 : ¬ w.heap.size + 1 = w.heap.size + 1 + 1 := by omega
  have nex1_1_0 : ¬ w.heap.size = w.heap.size + 1 := by omega
  go_region_held3 (fun w' => SeesX w5.heap.size (w.heap.size + 1 + 1) w5 w') (first | with_reducible exact SeesX.of (Nat.le_refl _) (by assumption) | with_reducible exact SeesX.of (Nat.le_refl _) (brefl _).drew | with_reducible exact (SeesX.set (SeesX.set (SeesX.set (SeesX.set (SeesX.of (Nat.le_refl _) (by assumption)))))) | with_reducible exact (SeesX.set (SeesX.set (SeesX.set (SeesX.of (Nat.le_refl _) (by assumption))))) | with_reducible exact (SeesX.set (SeesX.set (SeesX.of (Nat.le_refl _) (by assumption)))) | with_reducible exact (SeesX.set (SeesX.of (Nat.le_refl _) (by assumption))) | exact SeesX.of (Nat.le_refl _) (below_drewN (brefl _) 1) | exact SeesX.of (Nat.le_refl _) (below_drewN (by assumption) _))
    (first
      | (go_at_call 34; (with_reducible refine (u_one _).mono ?_); rintro e w6 ⟨b6, A6, n6, c6, A'6, n'6, c'6, rfl, h6, hb6⟩; replace hb6 := bnext (below_drewN (brefl _) 1) hb6; have q6 : Below w5.heap.size w5 w6 := bnext (brefl w5) hb6; replace h := h.belw hb6; replace h' := h'.belw hb6; replace h1 := h1.belw hb6; replace h2 := h2.belw hb6; replace h4 := h4.belw hb6)
      | (go_at_call 37; (with_reducible refine (g_add _ b6 A6 n6 c6 A'6 n'6 c'6 (((1 : Int) : Rat)) (1) ?_ b A n c D m e (q) (k) ?_ ?_ ?_ ?_ ?_).mono ?_); (exact h6.qz); (exact h); (iterate 4 omega); rintro e w7 ⟨b7, A7, n7, c7, A'7, n'7, c'7, rfl, h7, hb7⟩; have q7 : Below w5.heap.size w5 w7 := bnext q6 hb7; replace h := h.belw hb7; replace h' := h'.belw hb7; replace h1 := h1.belw hb7; replace h2 := h2.belw hb7; replace h4 := h4.belw hb7; replace h6 := h6.belw hb7)
      | (go_at_call 36; (with_reducible refine (u_over _ b' A' n' c' D' m' e' (q') (k') ?_ b7 A7 n7 c7 A'7 n'7 c'7 ((((1 : Int) : Rat)) + (q)) ((1) + (k) + 1) ?_ ?_ ?_ ?_ ?_ ?_).mono ?_); (exact h'); (exact h7.qz); (iterate 4 omega); (exact HNE.out); rintro e w8 ⟨b8, A8, n8, c8, A'8, n'8, c'8, rfl, h8, hb8⟩; have q8 : Below w5.heap.size w5 w8 := bnext q7 hb8; replace h := h.belw hb8; replace h' := h'.belw hb8; replace h1 := h1.belw hb8; replace h2 := h2.belw hb8; replace h4 := h4.belw hb8; replace h6 := h6.belw hb8; replace h7 := h7.belw hb8; have x1c := x1c.b q8; obtain ⟨cx1ca, cx1cb, cx1cc, cx1cd⟩ := x1c.c4; obtain ⟨fx1ca, fx1cb, fx1cc, fx1cd⟩ := x1c.f4))
  have bw8 := bw5.trans (q8.mono bw5.size)
  clear cx1aa cx1ab cx1ac lx1aa lx1ab lx1ac lx1ad cx1b lx1ba lx1bb lx1bc lx1bd cx1ca fx1ca cx1cb fx1cb cx1cc fx1cc cx1cd fx1cd lx1ca lx1cb lx1cc lx1cd
  replace x1a := x1a.b q8
  replace x1b := x1b.b q8
  have lw8 := q8.size
  obtain ⟨cx1ca, cx1cb, cx1cc, cx1cd⟩ := x1c.c4
  obtain ⟨fx1ca, fx1cb, fx1cc, fx1cd⟩ := x1c.f4
  go_wp2_with fail
  refine bodyPost_ret (v := .tuple #[.agg #[.bool b8, .slice A8 n8 c8, .slice A'8 n'8 c'8, .bool false], .int .i64 0]) (by simp [results, Tryz.results10, go_sem, *] <;> trivial) rfl ?_
  have kp := (((((Kp.refl w8).sb (w.heap.size + 1 + 1) 0 x1c.box (by decide) (.bool b8)).sb (w.heap.size + 1 + 1) 1 (x1c.box.set ⟨w.heap.size + 1 + 1, 0, none⟩ (.bool b8)) (by decide) (.slice A8 n8 c8)).sb (w.heap.size + 1 + 1) 2 ((x1c.box.set ⟨w.heap.size + 1 + 1, 0, none⟩ (.bool b8)).set ⟨w.heap.size + 1 + 1, 1, none⟩ (.slice A8 n8 c8)) (by decide) (.slice A'8 n'8 c'8)).sb (w.heap.size + 1 + 1) 3 (((x1c.box.set ⟨w.heap.size + 1 + 1, 0, none⟩ (.bool b8)).set ⟨w.heap.size + 1 + 1, 1, none⟩ (.slice A8 n8 c8)).set ⟨w.heap.size + 1 + 1, 2, none⟩ (.slice A'8 n'8 c'8)) (by decide) (.bool false))
  exact ⟨b8, A8, n8, c8, A'8, n'8, c'8, false, rfl, TV.frac ((h8.keep kp).mono (by omega)), ((((bw8.sc (w.heap.size + 1 + 1) 0 (by omega) (.bool b8)).sc (w.heap.size + 1 + 1) 1 (by omega) (.slice A8 n8 c8)).sc (w.heap.size + 1 + 1) 2 (by omega) (.slice A'8 n'8 c'8)).sc (w.heap.size + 1 + 1) 3 (by omega) (.bool false))⟩
theorem t_Tow_o (w : World) (b A n c D m e q k) (h : QZ w b A n c D m e q k) (b' A' n' c' D' m' e' q' k') (h' : QZ w b' A' n' c' D' m' e' q' k') (x : Int) (hx : towX q q' = x) (t : TN) (ht : towT q q' = t) (h0 : 0 < k) (hk : k ≤ 100000) (h0' : 0 < k') (hk' : k' ≤ 100000) :
    Calls Tryz.prog 8 #[.agg #[.bool b, .slice A n c, .slice D m e, .bool b', .slice A' n' c', .slice D' m' e']] w (RetTe w (errV x) t (10 * k + 10 * k' + 20)) := by
  obtain ⟨s, hs⟩ : ∃ s, (q * q + q' * q').num.sign = s := ⟨_, rfl⟩
  have HS := Lib.hid hs
  have HX := Lib.hid hx
  have HT := Lib.hid ht
  clear hs hx ht
  go_enter Tryz.func8, Tryz.ntmps8
  go_wp2_with fail
  have p1 := (((Kp.refl w).alloc (.cells #[.bool b, .slice A n c, .slice D m e, .bool b', .slice A' n' c', .slice D' m' e'] 35)).alloc (.cells #[.bool false, .slice none 0 0, .slice none 0 0, .bool false] 28))
  have bw1 := (((brefl w).alloc (by first | omega | (simp <;> omega)) (.cells #[.bool b, .slice A n c, .slice D m e, .bool b', .slice A' n' c', .slice D' m' e'] 35)).alloc (by first | omega | (simp <;> omega)) (.cells #[.bool false, .slice none 0 0, .slice none 0 0, .bool false] 28))
  have x1a : Blk ((w.alloc (.cells #[.bool b, .slice A n c, .slice D m e, .bool b', .slice A' n' c', .slice D' m' e'] 35)).alloc (.cells #[.bool false, .slice none 0 0, .slice none 0 0, .bool false] 28)) w.heap.size 35 #[.bool b, .slice A n c, .slice D m e, .bool b', .slice A' n' c', .slice D' m' e'] := ((blkAt _ _ _ (by simp)).alloc (.cells #[.bool false, .slice none 0 0, .slice none 0 0, .bool false] 28))
  have x1b : Blk ((w.alloc (.cells #[.bool b, .slice A n c, .slice D m e, .bool b', .slice A' n' c', .slice D' m' e'] 35)).alloc (.cells #[.bool false, .slice none 0 0, .slice none 0 0, .bool false] 28)) (w.heap.size + 1) 28 #[.bool false, .slice none 0 0, .slice none 0 0, .bool false] := (blkAt _ _ _ (by simp))
  have lw1 : w.heap.size + 2 ≤ ((w.alloc (.cells #[.bool b, .slice A n c, .slice D m e, .bool b', .slice A' n' c', .slice D' m' e'] 35)).alloc (.cells #[.bool false, .slice none 0 0, .slice none 0 0, .bool false] 28)).heap.size := by simp
  generalize hE1 : ((w.alloc (.cells #[.bool b, .slice A n c, .slice D m e, .bool b', .slice A' n' c', .slice D' m' e'] 35)).alloc (.cells #[.bool false, .slice none 0 0, .slice none 0 0, .bool false] 28)) = w1 at p1 bw1 lw1 x1a x1b ⊢
  clear hE1
  replace h := h.keep p1
  replace h' := h'.keep p1
  have cx1a := x1a.c6
  have lx1a := lts0 x1a.lt
  refine wp_region_lin (B := w.heap.size) (fr := fun xf => ⟨List.toArray (.agg #[.bool b, .slice A n c, .slice D m e, .bool b', .slice A' n' c', .slice D' m' e'] :: .pointer (some ⟨w.heap.size, 0, none⟩) :: .pointer (some ⟨w.heap.size + 1, 0, none⟩) :: .nilIface :: xf 10 :: xf 11 :: undef :: undef :: xf 0 :: xf 1 :: xf 2 :: xf 3 :: xf 4 :: xf 5 :: xf 6 :: xf 7 :: xf 8 :: xf 9 :: undef :: undef :: undef :: undef :: undef :: undef :: undef :: undef :: undef :: undef :: undef :: undef :: undef :: undef :: undef :: undef :: undef :: undef :: undef :: undef :: undef :: undef :: undef :: undef :: []), []⟩) (R := fun ri => List.getD ((PEq (.pointer (some ⟨w.heap.size, 0, none⟩))) :: (PEq (.agg #[.bool b, .slice A n c, .slice D m e])) :: (PEq (.pointer (some ⟨w.heap.size, 0, none⟩))) :: (PEq (.agg #[.bool b, .slice A n c, .slice D m e])) :: (VQ ((q) * (q)) ((k) + (k))) :: (PEq (.pointer (some ⟨w.heap.size, 3, none⟩))) :: (PEq (.agg #[.bool b', .slice A' n' c', .slice D' m' e'])) :: (PEq (.pointer (some ⟨w.heap.size, 3, none⟩))) :: (PEq (.agg #[.bool b', .slice A' n' c', .slice D' m' e'])) :: (VQ ((q') * (q')) ((k') + (k'))) :: PAny :: PAny :: PAny :: PAny :: []) ri (fun _ _ => True)) (es := [⟨10, 12, 24, #[.bool false, .slice none 0 0, .slice none 0 0], CQ ((q) * (q)) ((k) + (k))⟩, ⟨11, 13, 24, #[.bool false, .slice none 0 0, .slice none 0 0], CQ ((q') * (q')) ((k') + (k'))⟩]) (ow := [⟨w.heap.size, 14, 0, 35, #[.bool b, .slice A n c, .slice D m e, .bool b', .slice A' n' c', .slice D' m' e'], CAny⟩, ⟨w.heap.size + 1, 14, 0, 28, #[.bool false, .slice none 0 0, .slice none 0 0, .bool false], CAny⟩]) (x0 := (fun _ => undef)) (by kernel_rfl)
    (each_of ⟨fun _ _ => rfl, fun _ _ => rfl, fun _ _ => rfl, fun _ _ => rfl, fun _ _ => rfl, fun _ _ => rfl, fun _ _ => rfl, fun _ _ => rfl, fun _ _ => rfl, fun _ _ => rfl, fun _ _ => rfl, fun _ _ => rfl, fun _ _ => rfl, fun _ _ => rfl, trivial⟩) (each_of (acyc_from _ 0 (by kernel_rfl))) (AllStab.get _ ⟨stEq _, stEq _, stEq _, stEq _, stQ _ _, stEq _, stEq _, stEq _, stEq _, stQ _ _, stAny, stAny, stAny, stAny, trivial⟩)
    (fmc ⟨scQ _ _, fmc ⟨scQ _ _, fun _ h => nomatch h⟩⟩) (fmc ⟨scAny, fmc ⟨scAny, fun _ h => nomatch h⟩⟩) (fmc ⟨⟨by simp, by simp⟩, fmc ⟨⟨by simp, by simp⟩, fun _ h => nomatch h⟩⟩) bw1.size
    (fmc ⟨⟨x1a, by show w.heap.size ≤ w.heap.size; omega⟩, fmc ⟨⟨x1b, by show w.heap.size ≤ w.heap.size + 1; omega⟩, fun _ h => nomatch h⟩⟩) (ownDist (by simp <;> omega))
    (each_of ⟨?_, ?_, ?_, ?_, ?_, ?_, ?_, ?_, ?_, ?_, ?_, ?_, ?_, ?_, trivial⟩) ?_
  · exact .inl ⟨by simp, by simp, fun xf wq hk hbl hd K hK => by
      (try dsimp only)
      go_simp
      exact hK.out (.pointer (some ⟨w.heap.size, 0, none⟩)) _ rfl (brefl _)⟩
  · exact .inl ⟨by simp, by simp, fun xf wq hk hbl hd K hK => by
      have dq0 : xf 0 = .pointer (some ⟨w.heap.size, 0, none⟩) := hd ⟨0, .data⟩ (by simp) rfl
      have y : Blk wq w.heap.size 35 #[.bool b, .slice A n c, .slice D m e, .bool b', .slice A' n' c', .slice D' m' e'] := hbl _ (List.Mem.head _) (by simp [Region.binds])
      obtain ⟨hcl0, hcl1, hcl2, hcl3, hcl4, hcl5⟩ := y.c6
      (try dsimp only); (try simp only [dq0])
      go_simp
      have hz := hK.out (.agg #[.bool b, .slice A n c, .slice D m e]) _ rfl (brefl _)
      simp only [dq0] at hz
      exact hz⟩
  · exact .inl ⟨by simp, by simp, fun xf wq hk hbl hd K hK => by
      (try dsimp only)
      go_simp
      exact hK.out (.pointer (some ⟨w.heap.size, 0, none⟩)) _ rfl (brefl _)⟩
  · exact .inl ⟨by simp, by simp, fun xf wq hk hbl hd K hK => by
      have dq2 : xf 2 = .pointer (some ⟨w.heap.size, 0, none⟩) := hd ⟨2, .data⟩ (by simp) rfl
      have y : Blk wq w.heap.size 35 #[.bool b, .slice A n c, .slice D m e, .bool b', .slice A' n' c', .slice D' m' e'] := hbl _ (List.Mem.head _) (by simp [Region.binds])
      obtain ⟨hcl0, hcl1, hcl2, hcl3, hcl4, hcl5⟩ := y.c6
      (try dsimp only); (try simp only [dq2])
      go_simp
      have hz := hK.out (.agg #[.bool b, .slice A n c, .slice D m e]) _ rfl (brefl _)
      simp only [dq2] at hz
      exact hz⟩
  · exact .inl ⟨by simp, by simp, fun xf wq hk hbl hd K hK => by
      have dq1 : xf 1 = .agg #[.bool b, .slice A n c, .slice D m e] := hd ⟨1, .data⟩ (by simp) rfl
      have dq3 : xf 3 = .agg #[.bool b, .slice A n c, .slice D m e] := hd ⟨3, .data⟩ (by simp) rfl
      (try dsimp only); (try simp only [dq1, dq3])
      go_simp
      go_at_call 24
      (with_reducible refine (f_mul _ b A n c D m e (q) (k) ?_ b A n c D m e (q) (k) ?_ ?_ ?_ ?_ ?_).mono ?_); (exact (h.keep hk)); (exact (h.keep hk)); (iterate 4 omega); rintro e wr ⟨b3, A3, n3, c3, A'3, n'3, c'3, rfl, h3, hbr⟩
      have hz := hK.out _ _ ⟨b3, A3, n3, c3, A'3, n'3, c'3, rfl, h3⟩ hbr
      simp only [dq1, dq3] at hz
      exact hz⟩
  · exact .inl ⟨by simp, by simp, fun xf wq hk hbl hd K hK => by
      (try dsimp only)
      go_simp
      exact hK.out (.pointer (some ⟨w.heap.size, 3, none⟩)) _ rfl (brefl _)⟩
  · exact .inl ⟨by simp, by simp, fun xf wq hk hbl hd K hK => by
      have dq5 : xf 5 = .pointer (some ⟨w.heap.size, 3, none⟩) := hd ⟨5, .data⟩ (by simp) rfl
      have y : Blk wq w.heap.size 35 #[.bool b, .slice A n c, .slice D m e, .bool b', .slice A' n' c', .slice D' m' e'] := hbl _ (List.Mem.head _) (by simp [Region.binds])
      obtain ⟨hcl0, hcl1, hcl2, hcl3, hcl4, hcl5⟩ := y.c6
      (try dsimp only); (try simp only [dq5])
      go_simp
      have hz := hK.out (.agg #[.bool b', .slice A' n' c', .slice D' m' e']) _ rfl (brefl _)
      simp only [dq5] at hz
      exact hz⟩
  · exact .inl ⟨by simp, by simp, fun xf wq hk hbl hd K hK => by
      (try dsimp only)
      go_simp
      exact hK.out (.pointer (some ⟨w.heap.size, 3, none⟩)) _ rfl (brefl _)⟩
  · exact .inl ⟨by simp, by simp, fun xf wq hk hbl hd K hK => by
      have dq7 : xf 7 = .pointer (some ⟨w.heap.size, 3, none⟩) := hd ⟨7, .data⟩ (by simp) rfl
      have y : Blk wq w.heap.size 35 #[.bool b, .slice A n c, .slice D m e, .bool b', .slice A' n' c', .slice D' m' e'] := hbl _ (List.Mem.head _) (by simp [Region.binds])
      obtain ⟨hcl0, hcl1, hcl2, hcl3, hcl4, hcl5⟩ := y.c6
      (try dsimp only); (try simp only [dq7])
      go_simp
      have hz := hK.out (.agg #[.bool b', .slice A' n' c', .slice D' m' e']) _ rfl (brefl _)
      simp only [dq7] at hz
      exact hz⟩
  · exact .inl ⟨by simp, by simp, fun xf wq hk hbl hd K hK => by
      have dq6 : xf 6 = .agg #[.bool b', .slice A' n' c', .slice D' m' e'] := hd ⟨6, .data⟩ (by simp) rfl
      have dq8 : xf 8 = .agg #[.bool b', .slice A' n' c', .slice D' m' e'] := hd ⟨8, .data⟩ (by simp) rfl
      (try dsimp only); (try simp only [dq6, dq8])
      go_simp
      go_at_call 24
      (with_reducible refine (f_mul _ b' A' n' c' D' m' e' (q') (k') ?_ b' A' n' c' D' m' e' (q') (k') ?_ ?_ ?_ ?_ ?_).mono ?_); (exact (h'.keep hk)); (exact (h'.keep hk)); (iterate 4 omega); rintro e wr ⟨b4, A4, n4, c4, A'4, n'4, c'4, rfl, h4, hbr⟩
      have hz := hK.out _ _ ⟨b4, A4, n4, c4, A'4, n'4, c'4, rfl, h4⟩ hbr
      simp only [dq6, dq8] at hz
      exact hz⟩
  · exact .inr (.inl ⟨⟨10, 12, 24, #[.bool false, .slice none 0 0, .slice none 0 0], CQ ((q) * (q)) ((k) + (k))⟩, by simp, rfl, by simp, by simp, by simp, fun _ _ => True.intro, fun xf wq K hK => by
      (try dsimp only)
      go_simp
      exact hK.out⟩)
  · exact .inr (.inl ⟨⟨11, 13, 24, #[.bool false, .slice none 0 0, .slice none 0 0], CQ ((q') * (q')) ((k') + (k'))⟩, by simp, rfl, by simp, by simp, by simp, fun _ _ => True.intro, fun xf wq K hK => by
      (try dsimp only)
      go_simp
      exact hK.out⟩)
  · exact .inr (.inr (.inl ⟨⟨10, 12, 24, #[.bool false, .slice none 0 0, .slice none 0 0], CQ ((q) * (q)) ((k) + (k))⟩, by simp, rfl, by simp, by simp, by simp, by simp, (show KT 24 = false by decide), fun _ _ => True.intro, ⟨⟨10, .data⟩, by simp, rfl, rfl⟩, fun xf wq g hx hblk hd => by
      obtain ⟨b3, A3, n3, c3, A'3, n'3, c'3, dq4, h3⟩ : VQ ((q) * (q)) ((k) + (k)) (xf 4) wq := hd ⟨4, .data⟩ (by simp) rfl
      dsimp only at hx hblk
      refine ⟨[.bool b3, .slice A3 n3 c3, .slice A'3 n'3 c'3], fun w' hk => ⟨b3, A3, n3, c3, A'3, n'3, c'3, rfl, h3.keep hk⟩, fun K hK => ?_⟩
      have hc0 : wq.cell? ⟨g, 0, none⟩ = some (.bool false) := hblk.cell 0
      have hc1 : wq.cell? ⟨g, 1, none⟩ = some (.slice none 0 0) := hblk.cell 1
      have hc2 : wq.cell? ⟨g, 2, none⟩ = some (.slice none 0 0) := hblk.cell 2
      have hf0 : wq.frozen? ⟨g, 0, none⟩ = false := hblk.frozen 0
      have hf1 : wq.frozen? ⟨g, 1, none⟩ = false := hblk.frozen 1
      have hf2 : wq.frozen? ⟨g, 2, none⟩ = false := hblk.frozen 2
      (try dsimp only)
      simp only [hx, dq4]
      go_simp
      have hz := hK.out undef
      simp only [hx, dq4] at hz
      exact hz⟩))
  · exact .inr (.inr (.inl ⟨⟨11, 13, 24, #[.bool false, .slice none 0 0, .slice none 0 0], CQ ((q') * (q')) ((k') + (k'))⟩, by simp, rfl, by simp, by simp, by simp, by simp, (show KT 24 = false by decide), fun _ _ => True.intro, ⟨⟨11, .data⟩, by simp, rfl, rfl⟩, fun xf wq g hx hblk hd => by
      obtain ⟨b4, A4, n4, c4, A'4, n'4, c'4, dq9, h4⟩ : VQ ((q') * (q')) ((k') + (k')) (xf 9) wq := hd ⟨9, .data⟩ (by simp) rfl
      dsimp only at hx hblk
      refine ⟨[.bool b4, .slice A4 n4 c4, .slice A'4 n'4 c'4], fun w' hk => ⟨b4, A4, n4, c4, A'4, n'4, c'4, rfl, h4.keep hk⟩, fun K hK => ?_⟩
      have hc0 : wq.cell? ⟨g, 0, none⟩ = some (.bool false) := hblk.cell 0
      have hc1 : wq.cell? ⟨g, 1, none⟩ = some (.slice none 0 0) := hblk.cell 1
      have hc2 : wq.cell? ⟨g, 2, none⟩ = some (.slice none 0 0) := hblk.cell 2
      have hf0 : wq.frozen? ⟨g, 0, none⟩ = false := hblk.frozen 0
      have hf1 : wq.frozen? ⟨g, 1, none⟩ = false := hblk.frozen 1
      have hf2 : wq.frozen? ⟨g, 2, none⟩ = false := hblk.frozen 2
      (try dsimp only)
      simp only [hx, dq9]
      go_simp
      have hz := hK.out undef
      simp only [hx, dq9] at hz
      exact hz⟩))
  clear cx1a lx1a
  intro y2 w2 kq2 hbl2 lw2 how hrr hfl hds
  replace h := h.keep kq2
  replace h' := h'.keep kq2
  obtain ⟨_, z2_0, ez, _⟩ := how _ (List.Mem.head _)
  obtain rfl := ez (by simp)
  dsimp only at z2_0
  obtain ⟨_, z2_1, ez, _⟩ := how _ (List.Mem.tail _ (List.Mem.head _))
  obtain rfl := ez (by simp)
  dsimp only at z2_1
  obtain ⟨g4_2, _, eg4_2, Gg4_2, xg4_2, ⟨b3, A3, n3, c3, A'3, n'3, c'3, rfl, h3⟩⟩ := hfl _ (List.Mem.head _)
  dsimp only at eg4_2 Gg4_2 xg4_2
  obtain ⟨g5_2, _, eg5_2, Gg5_2, xg5_2, ⟨b4, A4, n4, c4, A'4, n'4, c'4, rfl, h4⟩⟩ := hfl _ (List.Mem.tail _ (List.Mem.head _))
  dsimp only at eg5_2 Gg5_2 xg5_2
  have lgg4_2 : g4_2 < w2.heap.size := xg4_2.lt
  have lgg5_2 : g5_2 < w2.heap.size := xg5_2.lt
  have ngg4_2g5_2 : g4_2 ≠ g5_2 := fun e => hds _ (List.Mem.head _) _ (List.Mem.tail _ (List.Mem.head _)) (by simp) (by dsimp only; rw [eg4_2, eg5_2, e])
  (try dsimp only)
  simp only [eg4_2, eg5_2]
  clear hrr hfl how hds eg4_2 eg5_2
  clear x1a x1b
  have bw2 := bw1.trans hbl2
  clear bw1
  have cxg4_2_0 : w2.cell? ⟨g4_2, 0, none⟩ = some (.bool b3) := xg4_2.cell 0
  have cxg4_2_1 : w2.cell? ⟨g4_2, 1, none⟩ = some (.slice A3 n3 c3) := xg4_2.cell 1
  have cxg4_2_2 : w2.cell? ⟨g4_2, 2, none⟩ = some (.slice A'3 n'3 c'3) := xg4_2.cell 2
  obtain ⟨lxg4_2_0, lxg4_2_1, lxg4_2_2, lxg4_2_3⟩ := lts0 xg4_2.lt
  have cxg5_2_0 : w2.cell? ⟨g5_2, 0, none⟩ = some (.bool b4) := xg5_2.cell 0
  have cxg5_2_1 : w2.cell? ⟨g5_2, 1, none⟩ = some (.slice A4 n4 c4) := xg5_2.cell 1
  have cxg5_2_2 : w2.cell? ⟨g5_2, 2, none⟩ = some (.slice A'4 n'4 c'4) := xg5_2.cell 2
  obtain ⟨lxg5_2_0, lxg5_2_1, lxg5_2_2, lxg5_2_3⟩ := lts0 xg5_2.lt
  go_wp2_with fail
  (with_reducible refine (f_add _ b3 A3 n3 c3 A'3 n'3 c'3 ((q) * (q)) ((k) + (k)) ?_ b4 A4 n4 c4 A'4 n'4 c'4 ((q') * (q')) ((k') + (k')) ?_ ?_ ?_ ?_ ?_).mono ?_); (exact h3.qz); (exact h4.qz); (iterate 4 omega); rintro e w6 ⟨b6, A6, n6, c6, A'6, n'6, c'6, rfl, h6, q6⟩
  clear cxg4_2_0 cxg4_2_1 cxg4_2_2 lxg4_2_0 lxg4_2_1 lxg4_2_2 lxg4_2_3 cxg5_2_0 cxg5_2_1 cxg5_2_2 lxg5_2_0 lxg5_2_1 lxg5_2_2 lxg5_2_3
  replace h := h.belw q6
  replace h' := h'.belw q6
  replace h3 := h3.belw q6
  replace h4 := h4.belw q6
  replace z2_0 := z2_0.b q6
  replace z2_1 := z2_1.b q6
  replace xg4_2 := xg4_2.b q6
  replace xg5_2 := xg5_2.b q6
  have bw6 := bw2.trans (q6.mono bw2.size)
  have lw6 := q6.size
  clear q6 bw2
  go_wp2_with fail
  by_cases hc : q * q + q' * q' = 0
  · have hs0 : s = 0 := by rw [← HS.out, hc]; rfl
    subst hs0
    obtain rfl : x = 8 := HX.out.symm.trans (if_pos hc)
    obtain rfl : t = tzero := HT.out.symm.trans (if_pos hc)
    clear hc
    (with_reducible refine (f_sign_v _ b6 A6 n6 c6 A'6 n'6 c'6 (((q) * (q)) + ((q') * (q'))) (((k) + (k)) + ((k') + (k')) + 1) ?_ 0 ?_ ?_ ?_).mono ?_); (exact (h6.belw ((Below.refl _ _).alloc (Nat.le_refl _) _)).qz); (exact HS.out); omega; omega; rintro e w7 ⟨rfl, hb7⟩
    have q7 := hb7.q1
    replace h := h.belw q7
    replace h' := h'.belw q7
    replace h3 := h3.belw q7
    replace h4 := h4.belw q7
    replace h6 := h6.belw q7
    replace z2_0 := z2_0.b q7
    replace z2_1 := z2_1.b q7
    replace xg4_2 := xg4_2.b q7
    replace xg5_2 := xg5_2.b q7
    have x7a : Blk w7 w6.heap.size 24 #[.bool b6, .slice A6 n6 c6, .slice A'6 n'6 c'6] := (blkAt _ _ _ (by simp)).below hb7 (by simp)
    have bw7 := bw6.trans (q7.mono bw6.size)
    have lw7 := hb7.l1
    clear q7 bw6
    have cz2_1 := z2_1.c4
    have fz2_1 := z2_1.f4
    have lz2_1 := lts1 z2_1.lt
    go_wp2_with fail
    refine bodyPost_ret (v := .tuple #[.agg #[.bool false, .slice none 0 0, .slice none 0 0, .bool false], .iface 57 (.int .i64 8)]) (by simp [results, Tryz.results8, go_sem, *] <;> trivial) rfl ?_
    have kp := (((((Kp.refl w7).sb (w.heap.size + 1) 0 z2_1.box (by decide) (.bool false)).sb (w.heap.size + 1) 1 (z2_1.box.set ⟨w.heap.size + 1, 0, none⟩ (.bool false)) (by decide) (.slice none 0 0)).sb (w.heap.size + 1) 2 ((z2_1.box.set ⟨w.heap.size + 1, 0, none⟩ (.bool false)).set ⟨w.heap.size + 1, 1, none⟩ (.slice none 0 0)) (by decide) (.slice none 0 0)).sb (w.heap.size + 1) 3 (((z2_1.box.set ⟨w.heap.size + 1, 0, none⟩ (.bool false)).set ⟨w.heap.size + 1, 1, none⟩ (.slice none 0 0)).set ⟨w.heap.size + 1, 2, none⟩ (.slice none 0 0)) (by decide) (.bool false))
    exact ⟨false, none, 0, 0, none, 0, 0, false, rfl, tv_zero _ _, ((((bw7.sc (w.heap.size + 1) 0 (by omega) (.bool false)).sc (w.heap.size + 1) 1 (by omega) (.slice none 0 0)).sc (w.heap.size + 1) 2 (by omega) (.slice none 0 0)).sc (w.heap.size + 1) 3 (by omega) (.bool false))⟩
  · have e0 : ((s : Int) == 0) = false := beq_eq_false_iff_ne.2 (fun e => hc (sign_zero.1 (HS.out.trans e)))
    obtain rfl : x = 0 := HX.out.symm.trans (if_neg hc)
    obtain rfl : t = tof ((q * q - q' * q') / (q * q + q' * q')) ((q * q' + q * q') / (q * q + q' * q')) := HT.out.symm.trans (tow_eq hc).symm
    have HNE := Lib.hid hc
    clear hc
    (with_reducible refine (f_sign_v _ b6 A6 n6 c6 A'6 n'6 c'6 (((q) * (q)) + ((q') * (q'))) (((k) + (k)) + ((k') + (k')) + 1) ?_ s ?_ ?_ ?_).mono ?_); (exact (h6.belw ((Below.refl _ _).alloc (Nat.le_refl _) _)).qz); (exact HS.out); omega; omega; rintro e w7 ⟨rfl, hb7⟩
    have q7 := hb7.q1
    replace h := h.belw q7
    replace h' := h'.belw q7
    replace h3 := h3.belw q7
    replace h4 := h4.belw q7
    replace h6 := h6.belw q7
    replace z2_0 := z2_0.b q7
    replace z2_1 := z2_1.b q7
    replace xg4_2 := xg4_2.b q7
    replace xg5_2 := xg5_2.b q7
    have x7a : Blk w7 w6.heap.size 24 #[.bool b6, .slice A6 n6 c6, .slice A'6 n'6 c'6] := (blkAt _ _ _ (by simp)).below hb7 (by simp)
    have bw7 := bw6.trans (q7.mono bw6.size)
    have lw7 := hb7.l1
    clear q7 bw6
    have cz2_0 := z2_0.c6
    have lz2_0 := lts0 z2_0.lt
    go_wp2_with fail
    (with_reducible refine (f_mul _ b A n c D m e (q) (k) ?_ b' A' n' c' D' m' e' (q') (k') ?_ ?_ ?_ ?_ ?_).mono ?_); (exact h); (exact h'); (iterate 4 omega); rintro e w8 ⟨b8, A8, n8, c8, A'8, n'8, c'8, rfl, h8, q8⟩
    clear cz2_0 lz2_0
    replace h := h.belw q8
    replace h' := h'.belw q8
    replace h3 := h3.belw q8
    replace h4 := h4.belw q8
    replace h6 := h6.belw q8
    replace z2_0 := z2_0.b q8
    replace z2_1 := z2_1.b q8
    replace xg4_2 := xg4_2.b q8
    replace xg5_2 := xg5_2.b q8
    replace x7a := x7a.b q8
    have bw8 := bw7.trans (q8.mono bw7.size)
    have lw8 := q8.size
    clear q8 bw7
    go_wp2_with fail
    have p9 := ((Kp.refl w8).alloc (.cells #[.bool b8, .slice A8 n8 c8, .slice A'8 n'8 c'8] 24))
    have bw9 := (bw8.alloc (by first | omega | (simp <;> omega)) (.cells #[.bool b8, .slice A8 n8 c8, .slice A'8 n'8 c'8] 24))
    have x9a : Blk (w8.alloc (.cells #[.bool b8, .slice A8 n8 c8, .slice A'8 n'8 c'8] 24)) w8.heap.size 24 #[.bool b8, .slice A8 n8 c8, .slice A'8 n'8 c'8] := (blkAt _ _ _ (by simp))
    replace z2_0 : Blk (w8.alloc (.cells #[.bool b8, .slice A8 n8 c8, .slice A'8 n'8 c'8] 24)) w.heap.size 35 #[.bool b, .slice A n c, .slice D m e, .bool b', .slice A' n' c', .slice D' m' e'] := (z2_0.alloc (.cells #[.bool b8, .slice A8 n8 c8, .slice A'8 n'8 c'8] 24))
    replace z2_1 : Blk (w8.alloc (.cells #[.bool b8, .slice A8 n8 c8, .slice A'8 n'8 c'8] 24)) (w.heap.size + 1) 28 #[.bool false, .slice none 0 0, .slice none 0 0, .bool false] := (z2_1.alloc (.cells #[.bool b8, .slice A8 n8 c8, .slice A'8 n'8 c'8] 24))
    replace xg4_2 : Blk (w8.alloc (.cells #[.bool b8, .slice A8 n8 c8, .slice A'8 n'8 c'8] 24)) (g4_2) 24 #[.bool b3, .slice A3 n3 c3, .slice A'3 n'3 c'3] := (xg4_2.alloc (.cells #[.bool b8, .slice A8 n8 c8, .slice A'8 n'8 c'8] 24))
    replace xg5_2 : Blk (w8.alloc (.cells #[.bool b8, .slice A8 n8 c8, .slice A'8 n'8 c'8] 24)) (g5_2) 24 #[.bool b4, .slice A4 n4 c4, .slice A'4 n'4 c'4] := (xg5_2.alloc (.cells #[.bool b8, .slice A8 n8 c8, .slice A'8 n'8 c'8] 24))
    replace x7a := (x7a.alloc (.cells #[.bool b8, .slice A8 n8 c8, .slice A'8 n'8 c'8] 24))
    have lw9 : w8.heap.size + 1 ≤ (w8.alloc (.cells #[.bool b8, .slice A8 n8 c8, .slice A'8 n'8 c'8] 24)).heap.size := by simp
    generalize hE9 : (w8.alloc (.cells #[.bool b8, .slice A8 n8 c8, .slice A'8 n'8 c'8] 24)) = w9 at p9 bw9 lw9 x9a z2_0 z2_1 xg4_2 xg5_2 x7a ⊢
    clear hE9
    replace h := h.keep p9
    replace h' := h'.keep p9
    replace h3 := h3.keep p9
    replace h4 := h4.keep p9
    replace h6 := h6.keep p9
    replace h8 := h8.keep p9
    clear bw8
    obtain ⟨cxg4_2_0, cxg4_2_1, cxg4_2_2⟩ := xg4_2.c3
    obtain ⟨lxg4_2_0, lxg4_2_1, lxg4_2_2, lxg4_2_3⟩ := lts0 xg4_2.lt
    obtain ⟨cxg5_2_0, cxg5_2_1, cxg5_2_2⟩ := xg5_2.c3
    obtain ⟨lxg5_2_0, lxg5_2_1, lxg5_2_2, lxg5_2_3⟩ := lts0 xg5_2.lt
    have cx7a := x7a.c3
    have lx7a := lts0 x7a.lt
    have cx9a := x9a.c3
    have lx9a := lts0 x9a.lt
    refine wp_region_lin (B := w.heap.size) (fr := fun xf => ⟨List.toArray (.agg #[.bool b, .slice A n c, .slice D m e, .bool b', .slice A' n' c', .slice D' m' e'] :: .pointer (some ⟨w.heap.size, 0, none⟩) :: .pointer (some ⟨w.heap.size + 1, 0, none⟩) :: xf 12 :: .pointer (some ⟨g4_2, 0, none⟩) :: .pointer (some ⟨g5_2, 0, none⟩) :: .pointer (some ⟨w6.heap.size, 0, none⟩) :: .pointer (some ⟨w8.heap.size, 0, none⟩) :: y2 0 :: y2 1 :: y2 2 :: y2 3 :: y2 4 :: y2 5 :: y2 6 :: y2 7 :: y2 8 :: y2 9 :: .agg #[.bool b3, .slice A3 n3 c3, .slice A'3 n'3 c'3] :: .agg #[.bool b4, .slice A4 n4 c4, .slice A'4 n'4 c'4] :: .agg #[.bool b6, .slice A6 n6 c6, .slice A'6 n'6 c'6] :: .agg #[.bool b6, .slice A6 n6 c6, .slice A'6 n'6 c'6] :: .int .i64 s :: .bool false :: undef :: undef :: .pointer (some ⟨w.heap.size, 0, none⟩) :: .agg #[.bool b, .slice A n c, .slice D m e] :: .pointer (some ⟨w.heap.size, 3, none⟩) :: .agg #[.bool b', .slice A' n' c', .slice D' m' e'] :: .agg #[.bool b8, .slice A8 n8 c8, .slice A'8 n'8 c'8] :: xf 0 :: xf 1 :: xf 2 :: xf 3 :: xf 4 :: xf 5 :: xf 6 :: xf 7 :: xf 8 :: xf 9 :: xf 10 :: []), []⟩) (R := fun ri => List.getD ((PEq (.agg #[.bool b3, .slice A3 n3 c3, .slice A'3 n'3 c'3])) :: (PEq (.agg #[.bool b4, .slice A4 n4 c4, .slice A'4 n'4 c'4])) :: (VQ (((q) * (q)) - ((q') * (q'))) (((k) + (k)) + ((k') + (k')) + 1)) :: (PEq (.agg #[.bool b6, .slice A6 n6 c6, .slice A'6 n'6 c'6])) :: (VQ ((((q) * (q)) - ((q') * (q'))) / (((q) * (q)) + ((q') * (q')))) ((((k) + (k)) + ((k') + (k')) + 1) + (((k) + (k)) + ((k') + (k')) + 1))) :: (PEq (.agg #[.bool b8, .slice A8 n8 c8, .slice A'8 n'8 c'8])) :: (PEq (.agg #[.bool b8, .slice A8 n8 c8, .slice A'8 n'8 c'8])) :: (VQ (((q) * (q')) + ((q) * (q'))) (((k) + (k')) + ((k) + (k')) + 1)) :: (PEq (.agg #[.bool b6, .slice A6 n6 c6, .slice A'6 n'6 c'6])) :: (VQ ((((q) * (q')) + ((q) * (q'))) / (((q) * (q)) + ((q') * (q')))) ((((k) + (k')) + ((k) + (k')) + 1) + (((k) + (k)) + ((k') + (k')) + 1))) :: (VT (tof (((((q) * (q)) - ((q') * (q'))) / (((q) * (q)) + ((q') * (q'))))) (((((q) * (q')) + ((q) * (q'))) / (((q) * (q)) + ((q') * (q')))))) (((((k) + (k)) + ((k') + (k')) + 1) + (((k) + (k)) + ((k') + (k')) + 1)) + ((((k) + (k')) + ((k) + (k')) + 1) + (((k) + (k)) + ((k') + (k')) + 1)) + 2)) :: PAny :: (PEq (.nilIface)) :: []) ri (fun _ _ => True)) (es := []) (ow := [⟨w.heap.size, 13, 0, 35, #[.bool b, .slice A n c, .slice D m e, .bool b', .slice A' n' c', .slice D' m' e'], CAny⟩, ⟨w.heap.size + 1, 11, 0, 28, #[.bool false, .slice none 0 0, .slice none 0 0, .bool false], CT (tof (((((q) * (q)) - ((q') * (q'))) / (((q) * (q)) + ((q') * (q'))))) (((((q) * (q')) + ((q) * (q'))) / (((q) * (q)) + ((q') * (q')))))) (((((k) + (k)) + ((k') + (k')) + 1) + (((k) + (k)) + ((k') + (k')) + 1)) + ((((k) + (k')) + ((k) + (k')) + 1) + (((k) + (k)) + ((k') + (k')) + 1)) + 2)⟩, ⟨g4_2, 13, 0, 24, #[.bool b3, .slice A3 n3 c3, .slice A'3 n'3 c'3], CAny⟩, ⟨g5_2, 13, 0, 24, #[.bool b4, .slice A4 n4 c4, .slice A'4 n'4 c'4], CAny⟩, ⟨w6.heap.size, 13, 0, 24, #[.bool b6, .slice A6 n6 c6, .slice A'6 n'6 c'6], CAny⟩, ⟨w8.heap.size, 13, 0, 24, #[.bool b8, .slice A8 n8 c8, .slice A'8 n'8 c'8], CAny⟩]) (x0 := (upd (fun _ => undef) 12 (.nilIface))) (by kernel_rfl)
      (each_of ⟨fun _ _ => rfl, fun _ _ => rfl, fun _ _ => rfl, fun _ _ => rfl, fun _ _ => rfl, fun _ _ => rfl, fun _ _ => rfl, fun _ _ => rfl, fun _ _ => rfl, fun _ _ => rfl, fun _ _ => rfl, fun _ _ => rfl, fun _ _ => rfl, trivial⟩) (each_of (acyc_from _ 0 (by kernel_rfl))) (AllStab.get _ ⟨stEq _, stEq _, stQ _ _, stEq _, stQ _ _, stEq _, stEq _, stQ _ _, stEq _, stQ _ _, stT _ _, stAny, stEq _, trivial⟩)
      (fun _ h => nomatch h) (fmc ⟨scAny, fmc ⟨scT _ _, fmc ⟨scAny, fmc ⟨scAny, fmc ⟨scAny, fmc ⟨scAny, fun _ h => nomatch h⟩⟩⟩⟩⟩⟩) (fun _ h => nomatch h) bw9.size
      (fmc ⟨⟨z2_0, by show w.heap.size ≤ w.heap.size; omega⟩, fmc ⟨⟨z2_1, by show w.heap.size ≤ w.heap.size + 1; omega⟩, fmc ⟨⟨xg4_2, by show w.heap.size ≤ g4_2; omega⟩, fmc ⟨⟨xg5_2, by show w.heap.size ≤ g5_2; omega⟩, fmc ⟨⟨x7a, by show w.heap.size ≤ w6.heap.size; omega⟩, fmc ⟨⟨x9a, by show w.heap.size ≤ w8.heap.size; omega⟩, fun _ h => nomatch h⟩⟩⟩⟩⟩⟩) (ownDist (by simp <;> omega))
      (each_of ⟨?_, ?_, ?_, ?_, ?_, ?_, ?_, ?_, ?_, ?_, ?_, ?_, ?_, trivial⟩) ?_
    · exact .inl ⟨by simp, by simp, fun xf wq hk hbl hd K hK => by
        have y : Blk wq (g4_2) 24 #[.bool b3, .slice A3 n3 c3, .slice A'3 n'3 c'3] := hbl _ (List.Mem.tail _ (List.Mem.tail _ (List.Mem.head _))) (by simp [Region.binds])
        obtain ⟨hcl0, hcl1, hcl2⟩ := y.c3
        (try dsimp only)
        go_simp
        exact hK.out (.agg #[.bool b3, .slice A3 n3 c3, .slice A'3 n'3 c'3]) _ rfl (brefl _)⟩
    · exact .inl ⟨by simp, by simp, fun xf wq hk hbl hd K hK => by
        have y : Blk wq (g5_2) 24 #[.bool b4, .slice A4 n4 c4, .slice A'4 n'4 c'4] := hbl _ (List.Mem.tail _ (List.Mem.tail _ (List.Mem.tail _ (List.Mem.head _)))) (by simp [Region.binds])
        obtain ⟨hcl0, hcl1, hcl2⟩ := y.c3
        (try dsimp only)
        go_simp
        exact hK.out (.agg #[.bool b4, .slice A4 n4 c4, .slice A'4 n'4 c'4]) _ rfl (brefl _)⟩
    · exact .inl ⟨by simp, by simp, fun xf wq hk hbl hd K hK => by
        have dq0 : xf 0 = .agg #[.bool b3, .slice A3 n3 c3, .slice A'3 n'3 c'3] := hd ⟨0, .data⟩ (by simp) rfl
        have dq1 : xf 1 = .agg #[.bool b4, .slice A4 n4 c4, .slice A'4 n'4 c'4] := hd ⟨1, .data⟩ (by simp) rfl
        (try dsimp only); (try simp only [dq0, dq1])
        go_simp
        go_at_call 29
        (with_reducible refine (f_sub _ b3 A3 n3 c3 A'3 n'3 c'3 ((q) * (q)) ((k) + (k)) ?_ b4 A4 n4 c4 A'4 n'4 c'4 ((q') * (q')) ((k') + (k')) ?_ ?_ ?_ ?_ ?_).mono ?_); (exact (h3.keep hk).qz); (exact (h4.keep hk).qz); (iterate 4 omega); rintro e wr ⟨b11, A11, n11, c11, A'11, n'11, c'11, rfl, h11, hbr⟩
        have hz := hK.out _ _ ⟨b11, A11, n11, c11, A'11, n'11, c'11, rfl, h11⟩ hbr
        simp only [dq0, dq1] at hz
        exact hz⟩
    · exact .inl ⟨by simp, by simp, fun xf wq hk hbl hd K hK => by
        have y : Blk wq w6.heap.size 24 #[.bool b6, .slice A6 n6 c6, .slice A'6 n'6 c'6] := hbl _ (List.Mem.tail _ (List.Mem.tail _ (List.Mem.tail _ (List.Mem.tail _ (List.Mem.head _))))) (by simp [Region.binds])
        obtain ⟨hcl0, hcl1, hcl2⟩ := y.c3
        (try dsimp only)
        go_simp
        exact hK.out (.agg #[.bool b6, .slice A6 n6 c6, .slice A'6 n'6 c'6]) _ rfl (brefl _)⟩
    · exact .inl ⟨by simp, by simp, fun xf wq hk hbl hd K hK => by
        obtain ⟨b11, A11, n11, c11, A'11, n'11, c'11, dq2, h11⟩ : VQ (((q) * (q)) - ((q') * (q'))) (((k) + (k)) + ((k') + (k')) + 1) (xf 2) wq := hd ⟨2, .data⟩ (by simp) rfl
        have dq3 : xf 3 = .agg #[.bool b6, .slice A6 n6 c6, .slice A'6 n'6 c'6] := hd ⟨3, .data⟩ (by simp) rfl
        (try dsimp only); (try simp only [dq2, dq3])
        go_simp
        go_at_call 28
        (with_reducible refine (t_over _ b11 A11 n11 c11 A'11 n'11 c'11 (((q) * (q)) - ((q') * (q'))) (((k) + (k)) + ((k') + (k')) + 1) ?_ b6 A6 n6 c6 A'6 n'6 c'6 (((q) * (q)) + ((q') * (q'))) (((k) + (k)) + ((k') + (k')) + 1) ?_ ?_ ?_ ?_ ?_ ?_).mono ?_); (exact h11.qz); (exact (h6.keep hk).qz); (iterate 4 omega); (exact HNE.out); rintro e wr ⟨b12, A12, n12, c12, A'12, n'12, c'12, rfl, h12, hbr⟩
        have hz := hK.out _ _ ⟨b12, A12, n12, c12, A'12, n'12, c'12, rfl, h12⟩ hbr
        simp only [dq2, dq3] at hz
        exact hz⟩
    · exact .inl ⟨by simp, by simp, fun xf wq hk hbl hd K hK => by
        have y : Blk wq w8.heap.size 24 #[.bool b8, .slice A8 n8 c8, .slice A'8 n'8 c'8] := hbl _ (List.Mem.tail _ (List.Mem.tail _ (List.Mem.tail _ (List.Mem.tail _ (List.Mem.tail _ (List.Mem.head _)))))) (by simp [Region.binds])
        obtain ⟨hcl0, hcl1, hcl2⟩ := y.c3
        (try dsimp only)
        go_simp
        exact hK.out (.agg #[.bool b8, .slice A8 n8 c8, .slice A'8 n'8 c'8]) _ rfl (brefl _)⟩
    · exact .inl ⟨by simp, by simp, fun xf wq hk hbl hd K hK => by
        have y : Blk wq w8.heap.size 24 #[.bool b8, .slice A8 n8 c8, .slice A'8 n'8 c'8] := hbl _ (List.Mem.tail _ (List.Mem.tail _ (List.Mem.tail _ (List.Mem.tail _ (List.Mem.tail _ (List.Mem.head _)))))) (by simp [Region.binds])
        obtain ⟨hcl0, hcl1, hcl2⟩ := y.c3
        (try dsimp only)
        go_simp
        exact hK.out (.agg #[.bool b8, .slice A8 n8 c8, .slice A'8 n'8 c'8]) _ rfl (brefl _)⟩
    · exact .inl ⟨by simp, by simp, fun xf wq hk hbl hd K hK => by
        have dq5 : xf 5 = .agg #[.bool b8, .slice A8 n8 c8, .slice A'8 n'8 c'8] := hd ⟨5, .data⟩ (by simp) rfl
        have dq6 : xf 6 = .agg #[.bool b8, .slice A8 n8 c8, .slice A'8 n'8 c'8] := hd ⟨6, .data⟩ (by simp) rfl
        (try dsimp only); (try simp only [dq5, dq6])
        go_simp
        go_at_call 23
        (with_reducible refine (f_add _ b8 A8 n8 c8 A'8 n'8 c'8 ((q) * (q')) ((k) + (k')) ?_ b8 A8 n8 c8 A'8 n'8 c'8 ((q) * (q')) ((k) + (k')) ?_ ?_ ?_ ?_ ?_).mono ?_); (exact (h8.keep hk).qz); (exact (h8.keep hk).qz); (iterate 4 omega); rintro e wr ⟨b13, A13, n13, c13, A'13, n'13, c'13, rfl, h13, hbr⟩
        have hz := hK.out _ _ ⟨b13, A13, n13, c13, A'13, n'13, c'13, rfl, h13⟩ hbr
        simp only [dq5, dq6] at hz
        exact hz⟩
    · exact .inl ⟨by simp, by simp, fun xf wq hk hbl hd K hK => by
        have y : Blk wq w6.heap.size 24 #[.bool b6, .slice A6 n6 c6, .slice A'6 n'6 c'6] := hbl _ (List.Mem.tail _ (List.Mem.tail _ (List.Mem.tail _ (List.Mem.tail _ (List.Mem.head _))))) (by simp [Region.binds])
        obtain ⟨hcl0, hcl1, hcl2⟩ := y.c3
        (try dsimp only)
        go_simp
        exact hK.out (.agg #[.bool b6, .slice A6 n6 c6, .slice A'6 n'6 c'6]) _ rfl (brefl _)⟩
    · exact .inl ⟨by simp, by simp, fun xf wq hk hbl hd K hK => by
        obtain ⟨b13, A13, n13, c13, A'13, n'13, c'13, dq7, h13⟩ : VQ (((q) * (q')) + ((q) * (q'))) (((k) + (k')) + ((k) + (k')) + 1) (xf 7) wq := hd ⟨7, .data⟩ (by simp) rfl
        have dq8 : xf 8 = .agg #[.bool b6, .slice A6 n6 c6, .slice A'6 n'6 c'6] := hd ⟨8, .data⟩ (by simp) rfl
        (try dsimp only); (try simp only [dq7, dq8])
        go_simp
        go_at_call 28
        (with_reducible refine (t_over _ b13 A13 n13 c13 A'13 n'13 c'13 (((q) * (q')) + ((q) * (q'))) (((k) + (k')) + ((k) + (k')) + 1) ?_ b6 A6 n6 c6 A'6 n'6 c'6 (((q) * (q)) + ((q') * (q'))) (((k) + (k)) + ((k') + (k')) + 1) ?_ ?_ ?_ ?_ ?_ ?_).mono ?_); (exact h13.qz); (exact (h6.keep hk).qz); (iterate 4 omega); (exact HNE.out); rintro e wr ⟨b14, A14, n14, c14, A'14, n'14, c'14, rfl, h14, hbr⟩
        have hz := hK.out _ _ ⟨b14, A14, n14, c14, A'14, n'14, c'14, rfl, h14⟩ hbr
        simp only [dq7, dq8] at hz
        exact hz⟩
    · exact .inl ⟨by simp, by simp, fun xf wq hk hbl hd K hK => by
        obtain ⟨b12, A12, n12, c12, A'12, n'12, c'12, dq4, h12⟩ : VQ ((((q) * (q)) - ((q') * (q'))) / (((q) * (q)) + ((q') * (q')))) ((((k) + (k)) + ((k') + (k')) + 1) + (((k) + (k)) + ((k') + (k')) + 1)) (xf 4) wq := hd ⟨4, .data⟩ (by simp) rfl
        obtain ⟨b14, A14, n14, c14, A'14, n'14, c'14, dq9, h14⟩ : VQ ((((q) * (q')) + ((q) * (q'))) / (((q) * (q)) + ((q') * (q')))) ((((k) + (k')) + ((k) + (k')) + 1) + (((k) + (k)) + ((k') + (k')) + 1)) (xf 9) wq := hd ⟨9, .data⟩ (by simp) rfl
        (try dsimp only); (try simp only [dq4, dq9])
        go_simp
        go_at_call 26
        (with_reducible refine (t_of _ b12 A12 n12 c12 A'12 n'12 c'12 ((((q) * (q)) - ((q') * (q'))) / (((q) * (q)) + ((q') * (q')))) ((((k) + (k)) + ((k') + (k')) + 1) + (((k) + (k)) + ((k') + (k')) + 1)) ?_ b14 A14 n14 c14 A'14 n'14 c'14 ((((q) * (q')) + ((q) * (q'))) / (((q) * (q)) + ((q') * (q')))) ((((k) + (k')) + ((k) + (k')) + 1) + (((k) + (k)) + ((k') + (k')) + 1)) ?_ ?_ ?_ ?_ ?_).mono ?_); (exact h12.qz); (exact h14.qz); (iterate 4 omega); rintro e wr ⟨b15, A15, n15, c15, A'15, n'15, c'15, x15, rfl, h15, hbr⟩
        have hz := hK.out _ _ ⟨b15, A15, n15, c15, A'15, n'15, c'15, x15, rfl, h15⟩ hbr
        simp only [dq4, dq9] at hz
        exact hz⟩
    · exact .inr (.inr (.inr ⟨⟨w.heap.size + 1, 11, 0, 28, #[.bool false, .slice none 0 0, .slice none 0 0, .bool false], CT (tof (((((q) * (q)) - ((q') * (q'))) / (((q) * (q)) + ((q') * (q'))))) (((((q) * (q')) + ((q) * (q'))) / (((q) * (q)) + ((q') * (q')))))) (((((k) + (k)) + ((k') + (k')) + 1) + (((k) + (k)) + ((k') + (k')) + 1)) + ((((k) + (k')) + ((k) + (k')) + 1) + (((k) + (k)) + ((k') + (k')) + 1)) + 2)⟩, by simp, rfl, by simp, by simp, (show KT 28 = false by decide), fun _ _ => True.intro, fun xf wq hblk hd => by
        obtain ⟨b15, A15, n15, c15, A'15, n'15, c'15, x15, dq10, h15⟩ : VT (tof (((((q) * (q)) - ((q') * (q'))) / (((q) * (q)) + ((q') * (q'))))) (((((q) * (q')) + ((q) * (q'))) / (((q) * (q)) + ((q') * (q')))))) (((((k) + (k)) + ((k') + (k')) + 1) + (((k) + (k)) + ((k') + (k')) + 1)) + ((((k) + (k')) + ((k) + (k')) + 1) + (((k) + (k)) + ((k') + (k')) + 1)) + 2) (xf 10) wq := hd ⟨10, .data⟩ (by simp) rfl
        dsimp only at hblk
        refine ⟨[.bool b15, .slice A15 n15 c15, .slice A'15 n'15 c'15, .bool x15], fun w' hk => ⟨b15, A15, n15, c15, A'15, n'15, c'15, x15, rfl, h15.keep hk⟩, fun K hK => ?_⟩
        have hc0 : wq.cell? ⟨w.heap.size + 1, 0, none⟩ = some (.bool false) := hblk.cell 0
        have hc1 : wq.cell? ⟨w.heap.size + 1, 1, none⟩ = some (.slice none 0 0) := hblk.cell 1
        have hc2 : wq.cell? ⟨w.heap.size + 1, 2, none⟩ = some (.slice none 0 0) := hblk.cell 2
        have hc3 : wq.cell? ⟨w.heap.size + 1, 3, none⟩ = some (.bool false) := hblk.cell 3
        have hf0 : wq.frozen? ⟨w.heap.size + 1, 0, none⟩ = false := hblk.frozen 0
        have hf1 : wq.frozen? ⟨w.heap.size + 1, 1, none⟩ = false := hblk.frozen 1
        have hf2 : wq.frozen? ⟨w.heap.size + 1, 2, none⟩ = false := hblk.frozen 2
        have hf3 : wq.frozen? ⟨w.heap.size + 1, 3, none⟩ = false := hblk.frozen 3
        (try dsimp only)
        simp only [dq10]
        go_simp
        have hz := hK.out undef
        simp only [dq10] at hz
        exact hz⟩))
    · exact .inl ⟨by simp, by simp, fun xf wq hk hbl hd K hK => by
        (try dsimp only)
        go_simp
        exact hK.out (.nilIface) _ rfl (brefl _)⟩
    clear cxg4_2_0 cxg4_2_1 cxg4_2_2 lxg4_2_0 lxg4_2_1 lxg4_2_2 lxg4_2_3 cxg5_2_0 cxg5_2_1 cxg5_2_2 lxg5_2_0 lxg5_2_1 lxg5_2_2 lxg5_2_3 cx7a lx7a cx9a lx9a
    intro y10 w10 kq10 hbl10 lw10 how hrr hfl hds
    replace h := h.keep kq10
    replace h' := h'.keep kq10
    replace h3 := h3.keep kq10
    replace h4 := h4.keep kq10
    replace h6 := h6.keep kq10
    replace h8 := h8.keep kq10
    obtain ⟨_, z10_0, ez, _⟩ := how _ (List.Mem.head _)
    obtain rfl := ez (by simp)
    dsimp only at z10_0
    obtain ⟨_, z10_1, _, ez⟩ := how _ (List.Mem.tail _ (List.Mem.head _))
    obtain ⟨b15, A15, n15, c15, A'15, n'15, c'15, x15, rfl, h15⟩ := ez (by simp)
    dsimp only at z10_1
    obtain ⟨_, z10_2, ez, _⟩ := how _ (List.Mem.tail _ (List.Mem.tail _ (List.Mem.head _)))
    obtain rfl := ez (by simp)
    dsimp only at z10_2
    obtain ⟨_, z10_3, ez, _⟩ := how _ (List.Mem.tail _ (List.Mem.tail _ (List.Mem.tail _ (List.Mem.head _))))
    obtain rfl := ez (by simp)
    dsimp only at z10_3
    obtain ⟨_, z10_4, ez, _⟩ := how _ (List.Mem.tail _ (List.Mem.tail _ (List.Mem.tail _ (List.Mem.tail _ (List.Mem.head _)))))
    obtain rfl := ez (by simp)
    dsimp only at z10_4
    obtain ⟨_, z10_5, ez, _⟩ := how _ (List.Mem.tail _ (List.Mem.tail _ (List.Mem.tail _ (List.Mem.tail _ (List.Mem.tail _ (List.Mem.head _))))))
    obtain rfl := ez (by simp)
    dsimp only at z10_5
    have ea12 : y10 12 = .nilIface := hrr 12 (by simp)
    (try dsimp only)
    simp only [ea12]
    clear hrr hfl how hds ea12
    clear z2_0 z2_1 xg4_2 xg5_2 x7a x9a
    have bw10 := bw9.trans hbl10
    clear bw9
    have cz10_1_0 : w10.cell? ⟨w.heap.size + 1, 0, none⟩ = some (.bool b15) := z10_1.cell 0
    have cz10_1_1 : w10.cell? ⟨w.heap.size + 1, 1, none⟩ = some (.slice A15 n15 c15) := z10_1.cell 1
    have cz10_1_2 : w10.cell? ⟨w.heap.size + 1, 2, none⟩ = some (.slice A'15 n'15 c'15) := z10_1.cell 2
    have cz10_1_3 : w10.cell? ⟨w.heap.size + 1, 3, none⟩ = some (.bool x15) := z10_1.cell 3
    have lz10_1 := lts1 z10_1.lt
    go_wp2_with fail
    refine bodyPost_ret (v := .tuple #[.agg #[.bool b15, .slice A15 n15 c15, .slice A'15 n'15 c'15, .bool x15], .nilIface]) (by simp [results, Tryz.results8, go_sem, *] <;> trivial) rfl ?_
    have kp := (Kp.refl w10)
    exact ⟨b15, A15, n15, c15, A'15, n'15, c'15, x15, rfl, (h15.keep kp).mono (by omega), bw10⟩
theorem u_Tow_zero (w : World) (b A n c D m e q k) (h : QZ w b A n c D m e q k) (b' A' n' c' D' m' e' q' k') (h' : QZ w b' A' n' c' D' m' e' q' k') (h0 : 0 < k) (hk : k ≤ 100000) (h0' : 0 < k') (hk' : k' ≤ 100000) (hc : q * q + q' * q' = 0) :
  Calls Tryz.prog 11 #[.agg #[.bool b, .slice A n c, .slice D m e, .bool b', .slice A' n' c', .slice D' m' e']] w (RetTe w (.int .i64 8) tzero 1) := by
 have hs : (q * q + q' * q').num.sign = 0 := by rw [hc]; rfl
 have HS := Lib.hid hs
 clear hs
 clear hc
 go_enter Tryz.func11, Tryz.ntmps11
 go_wp2_with fail
 (with_reducible refine (u_square _ b A n c D m e (q) (k) ?_ b' A' n' c' D' m' e' (q') (k') ?_ ?_ ?_ ?_ ?_).mono ?_); (exact (h.belw (((Below.refl _ _).alloc (Nat.le_refl _) _).alloc (by simp) _))); (exact (h'.belw (((Below.refl _ _).alloc (Nat.le_refl _) _).alloc (by simp) _))); (iterate 4 omega); rintro e w1 ⟨b1, A1, n1, c1, A'1, n'1, c'1, rfl, h1, hb1⟩
 have q1 := hb1.q2
 replace h := h.belw q1
 replace h' := h'.belw q1
 have x1a : Blk w1 w.heap.size 35 #[.bool b, .slice A n c, .slice D m e, .bool b', .slice A' n' c', .slice D' m' e'] := ((blkAt _ _ _ (by simp)).alloc _).below hb1 (by simp <;> omega)
 have x1b := (blkAt _ _ _ (g := w.heap.size + 1) (by simp)).below hb1 (by simp)
 have bw1 := (brefl w).trans (q1.mono (brefl w).size)
 have lw1 := hb1.l2
 clear q1
 go_wp2_with fail
 (with_reducible refine (g_sign_v _ b1 A1 n1 c1 A'1 n'1 c'1 ((q) * (q) + (q') * (q')) ((k) + (k) + ((k') + (k')) + 1) ?_ 0 ?_ ?_ ?_).mono ?_); (exact h1.qz); (exact HS.out); omega; omega; rintro e w2 ⟨rfl, q2⟩
 replace h := h.belw q2
 replace h' := h'.belw q2
 replace h1 := h1.belw q2
 replace x1a := x1a.b q2
 replace x1b := x1b.b q2
 have bw2 := bw1.trans (q2.mono bw1.size)
 have lw2 := q2.size
 clear q2 bw1
 have cx1b := x1b.c4
 have fx1b := x1b.f4
 have lx1b := lts1 x1b.lt
 go_wp2_with fail
 refine bodyPost_ret (v := .tuple #[.agg #[.bool false, .slice none 0 0, .slice none 0 0, .bool false], .int .i64 8]) (by simp [results, Tryz.results11, go_sem, *] <;> trivial) rfl ?_
 have kp := (((((Kp.refl w2).sb (w.heap.size + 1) 0 x1b.box (by decide) (.bool false)).sb (w.heap.size + 1) 1 (x1b.box.set ⟨w.heap.size + 1, 0, none⟩ (.bool false)) (by decide) (.slice none 0 0)).sb (w.heap.size + 1) 2 ((x1b.box.set ⟨w.heap.size + 1, 0, none⟩ (.bool false)).set ⟨w.heap.size + 1, 1, none⟩ (.slice none 0 0)) (by decide) (.slice none 0 0)).sb (w.heap.size + 1) 3 (((x1b.box.set ⟨w.heap.size + 1, 0, none⟩ (.bool false)).set ⟨w.heap.size + 1, 1, none⟩ (.slice none 0 0)).set ⟨w.heap.size + 1, 2, none⟩ (.slice none 0 0)) (by decide) (.bool false))
 exact ⟨false, none, 0, 0, none, 0, 0, false, rfl, tv_zero _ _, ((((bw2.sc (w.heap.size + 1) 0 (by omega) (.bool false)).sc (w.heap.size + 1) 1 (by omega) (.slice none 0 0)).sc (w.heap.size + 1) 2 (by omega) (.slice none 0 0)).sc (w.heap.size + 1) 3 (by omega) (.bool false))⟩
theorem u_Tow_half (w : World) (b A n c D m e q k) (h : QZ w b A n c D m e q k) (b' A' n' c' D' m' e' q' k') (h' : QZ w b' A' n' c' D' m' e' q' k') (h0 : 0 < k) (hk : k ≤ 100000) (h0' : 0 < k') (hk' : k' ≤ 100000) (hc : q * q + q' * q' ≠ 0) (hz : q = 0) :
  Calls Tryz.prog 11 #[.agg #[.bool b, .slice A n c, .slice D m e, .bool b', .slice A' n' c', .slice D' m' e']] w (RetTe w (.int .i64 0) (towT q q') (10 * k + 10 * k' + 20)) := by
 obtain ⟨s, hs⟩ : ∃ s, (q * q + q' * q').num.sign = s := ⟨_, rfl⟩
 have e0 : ((s : Int) == 0) = false := beq_eq_false_iff_ne.2 (fun e => hc (sign_zero.1 (hs.trans e)))
 have hs2 : q.num.sign = 0 := by rw [hz]; rfl
 have ht : towT q q' = thalf := by unfold towT; rw [if_neg hc, if_pos hz]
 rw [ht]
 have HS := Lib.hid hs
 have HS2 := Lib.hid hs2
 clear hs hs2
 clear hc hz ht
 go_enter Tryz.func11, Tryz.ntmps11
 go_wp2_with fail
 (with_reducible refine (u_square _ b A n c D m e (q) (k) ?_ b' A' n' c' D' m' e' (q') (k') ?_ ?_ ?_ ?_ ?_).mono ?_); (exact (h.belw (((Below.refl _ _).alloc (Nat.le_refl _) _).alloc (by simp) _))); (exact (h'.belw (((Below.refl _ _).alloc (Nat.le_refl _) _).alloc (by simp) _))); (iterate 4 omega); rintro e w1 ⟨b1, A1, n1, c1, A'1, n'1, c'1, rfl, h1, hb1⟩
 have q1 := hb1.q2
 replace h := h.belw q1
 replace h' := h'.belw q1
 have x1a : Blk w1 w.heap.size 35 #[.bool b, .slice A n c, .slice D m e, .bool b', .slice A' n' c', .slice D' m' e'] := ((blkAt _ _ _ (by simp)).alloc _).below hb1 (by simp <;> omega)
 have x1b := (blkAt _ _ _ (g := w.heap.size + 1) (by simp)).below hb1 (by simp)
 have bw1 := (brefl w).trans (q1.mono (brefl w).size)
 have lw1 := hb1.l2
 clear q1
 go_wp2_with fail
 (with_reducible refine (g_sign_v _ b1 A1 n1 c1 A'1 n'1 c'1 ((q) * (q) + (q') * (q')) ((k) + (k) + ((k') + (k')) + 1) ?_ s ?_ ?_ ?_).mono ?_); (exact h1.qz); (exact HS.out); omega; omega; rintro e w2 ⟨rfl, q2⟩
 replace h := h.belw q2
 replace h' := h'.belw q2
 replace h1 := h1.belw q2
 replace x1a := x1a.b q2
 replace x1b := x1b.b q2
 have bw2 := bw1.trans (q2.mono bw1.size)
 have lw2 := q2.size
 clear q2 bw1
 have cx1a := x1a.c6
 have lx1a := lts0 x1a.lt
 go_wp2_with fail
 (with_reducible refine (g_sign_v _ b A n c D m e (q) (k) ?_ 0 ?_ ?_ ?_).mono ?_); (exact h); (exact HS2.out); omega; omega; rintro e w3 ⟨rfl, q3⟩
 clear cx1a lx1a
 replace h := h.belw q3
 replace h' := h'.belw q3
 replace h1 := h1.belw q3
 replace x1a := x1a.b q3
 replace x1b := x1b.b q3
 have bw3 := bw2.trans (q3.mono bw2.size)
 have lw3 := q3.size
 clear q3 bw2
 have cx1b := x1b.c4
 have fx1b := x1b.f4
 have lx1b := lts1 x1b.lt
 go_wp2_with fail
 refine bodyPost_ret (v := .tuple #[.agg #[.bool false, .slice none 0 0, .slice none 0 0, .bool true], .int .i64 0]) (by simp [results, Tryz.results11, go_sem, *] <;> trivial) rfl ?_
 have kp := (((((Kp.refl w3).sb (w.heap.size + 1) 0 x1b.box (by decide) (.bool false)).sb (w.heap.size + 1) 1 (x1b.box.set ⟨w.heap.size + 1, 0, none⟩ (.bool false)) (by decide) (.slice none 0 0)).sb (w.heap.size + 1) 2 ((x1b.box.set ⟨w.heap.size + 1, 0, none⟩ (.bool false)).set ⟨w.heap.size + 1, 1, none⟩ (.slice none 0 0)) (by decide) (.slice none 0 0)).sb (w.heap.size + 1) 3 (((x1b.box.set ⟨w.heap.size + 1, 0, none⟩ (.bool false)).set ⟨w.heap.size + 1, 1, none⟩ (.slice none 0 0)).set ⟨w.heap.size + 1, 2, none⟩ (.slice none 0 0)) (by decide) (.bool true))
 exact ⟨false, none, 0, 0, none, 0, 0, true, rfl, tv_half _ _, ((((bw3.sc (w.heap.size + 1) 0 (by omega) (.bool false)).sc (w.heap.size + 1) 1 (by omega) (.slice none 0 0)).sc (w.heap.size + 1) 2 (by omega) (.slice none 0 0)).sc (w.heap.size + 1) 3 (by omega) (.bool true))⟩
theorem u_Tow_good (w : World) (b A n c D m e q k) (h : QZ w b A n c D m e q k) (b' A' n' c' D' m' e' q' k') (h' : QZ w b' A' n' c' D' m' e' q' k') (h0 : 0 < k) (hk : k ≤ 100000) (h0' : 0 < k') (hk' : k' ≤ 100000) (hc : q * q + q' * q' ≠ 0) (hz : q ≠ 0) :
  Calls Tryz.prog 11 #[.agg #[.bool b, .slice A n c, .slice D m e, .bool b', .slice A' n' c', .slice D' m' e']] w (RetTe w (.int .i64 0) (towT q q') (10 * k + 10 * k' + 20)) := by
 obtain ⟨s, hs⟩ : ∃ s, (q * q + q' * q').num.sign = s := ⟨_, rfl⟩
 have e0 : ((s : Int) == 0) = false := beq_eq_false_iff_ne.2 (fun e => hc (sign_zero.1 (hs.trans e)))
 obtain ⟨s2, hs2⟩ : ∃ s, q.num.sign = s := ⟨_, rfl⟩
 have e2 : ((s2 : Int) == 0) = false := beq_eq_false_iff_ne.2 (fun e => hz (sign_zero.1 (hs2.trans e)))
 have ht : towT q q' = ⟨q' / q, false⟩ := by unfold towT; rw [if_neg hc, if_neg hz]
 have HNE := Lib.hid hz
 rw [ht]
 have HS := Lib.hid hs
 have HS2 := Lib.hid hs2
 clear hs hs2
 clear hc hz ht
 go_enter Tryz.func11, Tryz.ntmps11
 go_wp2_with fail
 (with_reducible refine (u_square _ b A n c D m e (q) (k) ?_ b' A' n' c' D' m' e' (q') (k') ?_ ?_ ?_ ?_ ?_).mono ?_); (exact (h.belw (((Below.refl _ _).alloc (Nat.le_refl _) _).alloc (by simp) _))); (exact (h'.belw (((Below.refl _ _).alloc (Nat.le_refl _) _).alloc (by simp) _))); (iterate 4 omega); rintro e w1 ⟨b1, A1, n1, c1, A'1, n'1, c'1, rfl, h1, hb1⟩
 have q1 := hb1.q2
 replace h := h.belw q1
 replace h' := h'.belw q1
 have x1a : Blk w1 w.heap.size 35 #[.bool b, .slice A n c, .slice D m e, .bool b', .slice A' n' c', .slice D' m' e'] := ((blkAt _ _ _ (by simp)).alloc _).below hb1 (by simp <;> omega)
 have x1b := (blkAt _ _ _ (g := w.heap.size + 1) (by simp)).below hb1 (by simp)
 have bw1 := (brefl w).trans (q1.mono (brefl w).size)
 have lw1 := hb1.l2
 clear q1
 go_wp2_with fail
 (with_reducible refine (g_sign_v _ b1 A1 n1 c1 A'1 n'1 c'1 ((q) * (q) + (q') * (q')) ((k) + (k) + ((k') + (k')) + 1) ?_ s ?_ ?_ ?_).mono ?_); (exact h1.qz); (exact HS.out); omega; omega; rintro e w2 ⟨rfl, q2⟩
 replace h := h.belw q2
 replace h' := h'.belw q2
 replace h1 := h1.belw q2
 replace x1a := x1a.b q2
 replace x1b := x1b.b q2
 have bw2 := bw1.trans (q2.mono bw1.size)
 have lw2 := q2.size
 clear q2 bw1
 obtain ⟨cx1aa, cx1ab, cx1ac, cx1ad, cx1ae, cx1af⟩ := x1a.c6
 obtain ⟨lx1aa, lx1ab, lx1ac, lx1ad⟩ := lts0 x1a.lt
 go_wp2_with fail
 (with_reducible refine (g_sign_v _ b A n c D m e (q) (k) ?_ s2 ?_ ?_ ?_).mono ?_); (exact h); (exact HS2.out); omega; omega; rintro e w3 ⟨rfl, q3⟩
 clear cx1aa cx1ab cx1ac cx1ad cx1ae cx1af lx1aa lx1ab lx1ac lx1ad
 replace h := h.belw q3
 replace h' := h'.belw q3
 replace h1 := h1.belw q3
 replace x1a := x1a.b q3
 replace x1b := x1b.b q3
 have bw3 := bw2.trans (q3.mono bw2.size)
 have lw3 := q3.size
 clear q3 bw2
 obtain ⟨cx1aa, cx1ab, cx1ac, cx1ad, cx1ae, cx1af⟩ := x1a.c6
 obtain ⟨lx1aa, lx1ab, lx1ac, lx1ad⟩ := lts0 x1a.lt
 go_wp2_with fail
 (with_reducible refine (u_over _ b' A' n' c' D' m' e' (q') (k') ?_ b A n c D m e (q) (k) ?_ ?_ ?_ ?_ ?_ ?_).mono ?_); (exact h'); (exact h); (iterate 4 omega); (exact HNE.out); rintro e w4 ⟨b4, A4, n4, c4, A'4, n'4, c'4, rfl, h4, q4⟩
 clear cx1aa cx1ab cx1ac cx1ad cx1ae cx1af lx1aa lx1ab lx1ac lx1ad
 replace h := h.belw q4
 replace h' := h'.belw q4
 replace h1 := h1.belw q4
 replace x1a := x1a.b q4
 replace x1b := x1b.b q4
 have bw4 := bw3.trans (q4.mono bw3.size)
 have lw4 := q4.size
 clear q4 bw3
 have cx1b := x1b.c4
 have fx1b := x1b.f4
 have lx1b := lts1 x1b.lt
 go_wp2_with fail
 refine bodyPost_ret (v := .tuple #[.agg #[.bool b4, .slice A4 n4 c4, .slice A'4 n'4 c'4, .bool false], .int .i64 0]) (by simp [results, Tryz.results11, go_sem, *] <;> trivial) rfl ?_
 have kp := (((((Kp.refl w4).sb (w.heap.size + 1) 0 x1b.box (by decide) (.bool b4)).sb (w.heap.size + 1) 1 (x1b.box.set ⟨w.heap.size + 1, 0, none⟩ (.bool b4)) (by decide) (.slice A4 n4 c4)).sb (w.heap.size + 1) 2 ((x1b.box.set ⟨w.heap.size + 1, 0, none⟩ (.bool b4)).set ⟨w.heap.size + 1, 1, none⟩ (.slice A4 n4 c4)) (by decide) (.slice A'4 n'4 c'4)).sb (w.heap.size + 1) 3 (((x1b.box.set ⟨w.heap.size + 1, 0, none⟩ (.bool b4)).set ⟨w.heap.size + 1, 1, none⟩ (.slice A4 n4 c4)).set ⟨w.heap.size + 1, 2, none⟩ (.slice A'4 n'4 c'4)) (by decide) (.bool false))
 exact ⟨b4, A4, n4, c4, A'4, n'4, c'4, false, rfl, TV.frac ((h4.keep kp).mono (by omega)), ((((bw4.sc (w.heap.size + 1) 0 (by omega) (.bool b4)).sc (w.heap.size + 1) 1 (by omega) (.slice A4 n4 c4)).sc (w.heap.size + 1) 2 (by omega) (.slice A'4 n'4 c'4)).sc (w.heap.size + 1) 3 (by omega) (.bool false))⟩
theorem f_parse_0 (w : World) (s : List UInt8) (q : Rat) (hmx : Mx w) (h : FracOut s 0 q) : Calls Tryz.prog 31 #[strV s] w (RetFe w .nilIface q 65536) := by
 have := f_parse_o w s 0 q hmx h
 rw [show errV 0 = .nilIface from if_pos rfl] at this
 exact this
theorem f_parse_x (w : World) (s : List UInt8) (x : Int) (q : Rat) (hx : x ≠ 0) (hmx : Mx w) (h : FracOut s x q) : Calls Tryz.prog 31 #[strV s] w (RetFe w (.iface 57 (.int .i64 x)) q 65536) := by
 have := f_parse_o w s x q hmx h
 rw [show errV x = .iface 57 (.int .i64 x) from if_neg hx] at this
 exact this
theorem g_parse_0 (w : World) (s : List UInt8) (q : Rat) (h : FracOut s 0 q) : Calls Tryz.prog 39 #[strV s] w (RetFe w (.int .i64 0) q 65536) := g_parse_o w s 0 q h
def halfS : List UInt8 := [104, 97, 108, 102]
theorem t_Parse_half (w : World) (s : List UInt8) (hs : s = halfS) :
  Calls Tryz.prog 9 #[strV s] w (RetTe w (.nilIface) thalf 65536) := by
 unfold halfS at hs
 subst hs
 go_enter Tryz.func9, Tryz.ntmps9
 go_wp2_with fail
 (with_reducible refine (t_half _).mono ?_); rintro e w1 ⟨b1, A1, n1, c1, A'1, n'1, c'1, x1, rfl, h1, hb1⟩
 have q1 := hb1.q1
 have x1a : Blk w1 w.heap.size 28 #[.bool false, .slice none 0 0, .slice none 0 0, .bool false] := (blkAt _ _ _ (by simp)).below hb1 (by simp)
 have bw1 := (brefl w).trans (q1.mono (brefl w).size)
 have lw1 := hb1.l1
 clear q1
 have cx1a := x1a.c4
 have fx1a := x1a.f4
 have lx1a := lts0 x1a.lt
 go_wp2_with fail
 refine bodyPost_ret (v := .tuple #[.agg #[.bool b1, .slice A1 n1 c1, .slice A'1 n'1 c'1, .bool x1], .nilIface]) (by simp [results, Tryz.results9, go_sem, *] <;> trivial) rfl ?_
 have kp := (((((Kp.refl w1).sb w.heap.size 0 x1a.box (by decide) (.bool b1)).sb w.heap.size 1 (x1a.box.set ⟨w.heap.size, 0, none⟩ (.bool b1)) (by decide) (.slice A1 n1 c1)).sb w.heap.size 2 ((x1a.box.set ⟨w.heap.size, 0, none⟩ (.bool b1)).set ⟨w.heap.size, 1, none⟩ (.slice A1 n1 c1)) (by decide) (.slice A'1 n'1 c'1)).sb w.heap.size 3 (((x1a.box.set ⟨w.heap.size, 0, none⟩ (.bool b1)).set ⟨w.heap.size, 1, none⟩ (.slice A1 n1 c1)).set ⟨w.heap.size, 2, none⟩ (.slice A'1 n'1 c'1)) (by decide) (.bool x1))
 exact ⟨b1, A1, n1, c1, A'1, n'1, c'1, x1, rfl, (h1.keep kp).mono (by decide), ((((bw1.sc w.heap.size 0 (by omega) (.bool b1)).sc w.heap.size 1 (by omega) (.slice A1 n1 c1)).sc w.heap.size 2 (by omega) (.slice A'1 n'1 c'1)).sc w.heap.size 3 (by omega) (.bool x1))⟩
theorem t_Parse_ok (w : World) (s : List UInt8) (q : Rat) (hmx : Mx w) (h : FracOut s 0 q) (hs : s ≠ halfS) :
  Calls Tryz.prog 9 #[strV s] w (RetTe w (.nilIface) ⟨q, false⟩ 65536) := by
 have hxs : (s == [104, 97, 108, 102]) = false := beq_eq_false_iff_ne.2 hs
 have htl := toList_v s
 have HX := Lib.hid h
 clear h hs
 go_enter Tryz.func9, Tryz.ntmps9
 go_wp2_with fail
 (with_reducible refine (f_parse_0 _ (s) q (hmx.belw ((brefl w).alloc (by first | omega | (simp <;> omega)) (.cells #[.bool false, .slice none 0 0, .slice none 0 0, .bool false] 28))) HX.out).mono ?_); rintro e w1 ⟨b1, A1, n1, c1, A'1, n'1, c'1, rfl, h1, hb1⟩
 have q1 := hb1.q1
 have x1a : Blk w1 w.heap.size 28 #[.bool false, .slice none 0 0, .slice none 0 0, .bool false] := (blkAt _ _ _ (by simp)).below hb1 (by simp)
 have bw1 := (brefl w).trans (q1.mono (brefl w).size)
 have lw1 := hb1.l1
 clear q1
 have cx1a := x1a.c4
 have fx1a := x1a.f4
 have lx1a := lts0 x1a.lt
 go_wp2_with fail
 refine bodyPost_ret (v := .tuple #[.agg #[.bool b1, .slice A1 n1 c1, .slice A'1 n'1 c'1, .bool false], .nilIface]) (by simp [results, Tryz.results9, go_sem, *] <;> trivial) rfl ?_
 have kp := ((((((Kp.refl w1).sb w.heap.size 0 x1a.box (by decide) (.bool b1)).sb w.heap.size 1 (x1a.box.set ⟨w.heap.size, 0, none⟩ (.bool b1)) (by decide) (.slice A1 n1 c1)).sb w.heap.size 2 ((x1a.box.set ⟨w.heap.size, 0, none⟩ (.bool b1)).set ⟨w.heap.size, 1, none⟩ (.slice A1 n1 c1)) (by decide) (.slice A'1 n'1 c'1)).sb w.heap.size 3 (((x1a.box.set ⟨w.heap.size, 0, none⟩ (.bool b1)).set ⟨w.heap.size, 1, none⟩ (.slice A1 n1 c1)).set ⟨w.heap.size, 2, none⟩ (.slice A'1 n'1 c'1)) (by decide) (.bool false)).alloc (.cells #[.bool b1, .slice A1 n1 c1, .slice A'1 n'1 c'1] 24))
 exact ⟨b1, A1, n1, c1, A'1, n'1, c'1, false, rfl, TV.frac ((h1.keep kp).mono (by decide)), (((((bw1.sc w.heap.size 0 (by omega) (.bool b1)).sc w.heap.size 1 (by omega) (.slice A1 n1 c1)).sc w.heap.size 2 (by omega) (.slice A'1 n'1 c'1)).sc w.heap.size 3 (by omega) (.bool false)).alloc (by first | omega | (simp <;> omega)) (.cells #[.bool b1, .slice A1 n1 c1, .slice A'1 n'1 c'1] 24))⟩
theorem t_Parse_bad (w : World) (s : List UInt8) (x : Int) (q : Rat) (hmx : Mx w) (h : FracOut s x q) (hx : x ≠ 0) (hs : s ≠ halfS) :
  Calls Tryz.prog 9 #[strV s] w (RetTe w (.iface 57 (.int .i64 x)) tzero 65536) := by
 have hxs : (s == [104, 97, 108, 102]) = false := beq_eq_false_iff_ne.2 hs
 have htl := toList_v s
 have HX := Lib.hid h
 clear h hs
 have HN := Lib.hid hx
 have e0 : ((x : Int) == 0) = false := beq_eq_false_iff_ne.2 hx
 have e1 : ((x : Int) != 0) = true := bne_iff_ne.2 hx
 clear hx
 go_enter Tryz.func9, Tryz.ntmps9
 go_wp2_with fail
 (with_reducible refine (f_parse_x _ (s) x q HN.out (hmx.belw ((brefl w).alloc (by first | omega | (simp <;> omega)) (.cells #[.bool false, .slice none 0 0, .slice none 0 0, .bool false] 28))) HX.out).mono ?_); rintro e w1 ⟨b1, A1, n1, c1, A'1, n'1, c'1, rfl, h1, hb1⟩
 have q1 := hb1.q1
 have x1a : Blk w1 w.heap.size 28 #[.bool false, .slice none 0 0, .slice none 0 0, .bool false] := (blkAt _ _ _ (by simp)).below hb1 (by simp)
 have bw1 := (brefl w).trans (q1.mono (brefl w).size)
 have lw1 := hb1.l1
 clear q1
 have cx1a := x1a.c4
 have fx1a := x1a.f4
 have lx1a := lts0 x1a.lt
 go_wp2_with fail
 refine bodyPost_ret (v := .tuple #[.agg #[.bool false, .slice none 0 0, .slice none 0 0, .bool false], .iface 57 (.int .i64 x)]) (by simp [results, Tryz.results9, go_sem, *] <;> trivial) rfl ?_
 have kp := ((((((Kp.refl w1).sb w.heap.size 0 x1a.box (by decide) (.bool false)).sb w.heap.size 1 (x1a.box.set ⟨w.heap.size, 0, none⟩ (.bool false)) (by decide) (.slice none 0 0)).sb w.heap.size 2 ((x1a.box.set ⟨w.heap.size, 0, none⟩ (.bool false)).set ⟨w.heap.size, 1, none⟩ (.slice none 0 0)) (by decide) (.slice none 0 0)).sb w.heap.size 3 (((x1a.box.set ⟨w.heap.size, 0, none⟩ (.bool false)).set ⟨w.heap.size, 1, none⟩ (.slice none 0 0)).set ⟨w.heap.size, 2, none⟩ (.slice none 0 0)) (by decide) (.bool false)).alloc (.cells #[.bool b1, .slice A1 n1 c1, .slice A'1 n'1 c'1] 24))
 exact ⟨false, none, 0, 0, none, 0, 0, false, rfl, tv_zero _ _, (((((bw1.sc w.heap.size 0 (by omega) (.bool false)).sc w.heap.size 1 (by omega) (.slice none 0 0)).sc w.heap.size 2 (by omega) (.slice none 0 0)).sc w.heap.size 3 (by omega) (.bool false)).alloc (by first | omega | (simp <;> omega)) (.cells #[.bool b1, .slice A1 n1 c1, .slice A'1 n'1 c'1] 24))⟩
theorem u_Parse_half (w : World) (s : List UInt8) (hs : s = halfS) :
  Calls Tryz.prog 12 #[strV s] w (RetTe w (.int .i64 0) thalf 65536) := by
 unfold halfS at hs
 subst hs
 go_enter Tryz.func12, Tryz.ntmps12
 go_wp2_with fail
 refine bodyPost_ret (v := .tuple #[.agg #[.bool false, .slice none 0 0, .slice none 0 0, .bool true], .int .i64 0]) (by simp [results, Tryz.results12, go_sem, *] <;> trivial) rfl ?_
 have kp := ((Kp.refl w).alloc (.cells #[.bool false, .slice none 0 0, .slice none 0 0, .bool true] 28))
 exact ⟨false, none, 0, 0, none, 0, 0, true, rfl, tv_half _ _, ((brefl w).alloc (by first | omega | (simp <;> omega)) (.cells #[.bool false, .slice none 0 0, .slice none 0 0, .bool true] 28))⟩
theorem u_Parse_ok (w : World) (s : List UInt8) (q : Rat) (h : FracOut s 0 q) (hs : s ≠ halfS) :
  Calls Tryz.prog 12 #[strV s] w (RetTe w (.int .i64 0) ⟨q, false⟩ 65536) := by
 have hxs : (s == [104, 97, 108, 102]) = false := beq_eq_false_iff_ne.2 hs
 have htl := toList_v s
 have HX := Lib.hid h
 clear h hs
 go_enter Tryz.func12, Tryz.ntmps12
 go_wp2_with fail
 (with_reducible refine (g_parse_0 _ (s) q HX.out).mono ?_); rintro e w1 ⟨b1, A1, n1, c1, A'1, n'1, c'1, rfl, h1, hb1⟩
 have q1 := hb1.q1
 have x1a : Blk w1 w.heap.size 28 #[.bool false, .slice none 0 0, .slice none 0 0, .bool false] := (blkAt _ _ _ (by simp)).below hb1 (by simp)
 have bw1 := (brefl w).trans (q1.mono (brefl w).size)
 have lw1 := hb1.l1
 clear q1
 have cx1a := x1a.c4
 have fx1a := x1a.f4
 have lx1a := lts0 x1a.lt
 go_wp2_with fail
 refine bodyPost_ret (v := .tuple #[.agg #[.bool b1, .slice A1 n1 c1, .slice A'1 n'1 c'1, .bool false], .int .i64 0]) (by simp [results, Tryz.results12, go_sem, *] <;> trivial) rfl ?_
 have kp := ((((((Kp.refl w1).sb w.heap.size 0 x1a.box (by decide) (.bool b1)).sb w.heap.size 1 (x1a.box.set ⟨w.heap.size, 0, none⟩ (.bool b1)) (by decide) (.slice A1 n1 c1)).sb w.heap.size 2 ((x1a.box.set ⟨w.heap.size, 0, none⟩ (.bool b1)).set ⟨w.heap.size, 1, none⟩ (.slice A1 n1 c1)) (by decide) (.slice A'1 n'1 c'1)).sb w.heap.size 3 (((x1a.box.set ⟨w.heap.size, 0, none⟩ (.bool b1)).set ⟨w.heap.size, 1, none⟩ (.slice A1 n1 c1)).set ⟨w.heap.size, 2, none⟩ (.slice A'1 n'1 c'1)) (by decide) (.bool false)).alloc (.cells #[.bool b1, .slice A1 n1 c1, .slice A'1 n'1 c'1] 24))
 exact ⟨b1, A1, n1, c1, A'1, n'1, c'1, false, rfl, TV.frac ((h1.keep kp).mono (by decide)), (((((bw1.sc w.heap.size 0 (by omega) (.bool b1)).sc w.heap.size 1 (by omega) (.slice A1 n1 c1)).sc w.heap.size 2 (by omega) (.slice A'1 n'1 c'1)).sc w.heap.size 3 (by omega) (.bool false)).alloc (by first | omega | (simp <;> omega)) (.cells #[.bool b1, .slice A1 n1 c1, .slice A'1 n'1 c'1] 24))⟩
theorem u_Parse_bad (w : World) (s : List UInt8) (x : Int) (q : Rat) (h : FracOut s x q) (hx : x ≠ 0) (hs : s ≠ halfS) :
  Calls Tryz.prog 12 #[strV s] w (RetTe w (.int .i64 x) tzero 65536) := by
 have hxs : (s == [104, 97, 108, 102]) = false := beq_eq_false_iff_ne.2 hs
 have htl := toList_v s
 have HX := Lib.hid h
 clear h hs
 have HN := Lib.hid hx
 have e0 : ((x : Int) == 0) = false := beq_eq_false_iff_ne.2 hx
 have e1 : ((x : Int) != 0) = true := bne_iff_ne.2 hx
 clear hx
 go_enter Tryz.func12, Tryz.ntmps12
 go_wp2_with fail
 (with_reducible refine (g_parse_o _ (s) x q HX.out).mono ?_); rintro e w1 ⟨b1, A1, n1, c1, A'1, n'1, c'1, rfl, h1, hb1⟩
 have q1 := hb1.q1
 have x1a : Blk w1 w.heap.size 28 #[.bool false, .slice none 0 0, .slice none 0 0, .bool false] := (blkAt _ _ _ (by simp)).below hb1 (by simp)
 have bw1 := (brefl w).trans (q1.mono (brefl w).size)
 have lw1 := hb1.l1
 clear q1
 have cx1a := x1a.c4
 have fx1a := x1a.f4
 have lx1a := lts0 x1a.lt
 go_wp2_with fail
 refine bodyPost_ret (v := .tuple #[.agg #[.bool false, .slice none 0 0, .slice none 0 0, .bool false], .int .i64 x]) (by simp [results, Tryz.results12, go_sem, *] <;> trivial) rfl ?_
 have kp := ((((((Kp.refl w1).sb w.heap.size 0 x1a.box (by decide) (.bool false)).sb w.heap.size 1 (x1a.box.set ⟨w.heap.size, 0, none⟩ (.bool false)) (by decide) (.slice none 0 0)).sb w.heap.size 2 ((x1a.box.set ⟨w.heap.size, 0, none⟩ (.bool false)).set ⟨w.heap.size, 1, none⟩ (.slice none 0 0)) (by decide) (.slice none 0 0)).sb w.heap.size 3 (((x1a.box.set ⟨w.heap.size, 0, none⟩ (.bool false)).set ⟨w.heap.size, 1, none⟩ (.slice none 0 0)).set ⟨w.heap.size, 2, none⟩ (.slice none 0 0)) (by decide) (.bool false)).alloc (.cells #[.bool b1, .slice A1 n1 c1, .slice A'1 n'1 c'1] 24))
 exact ⟨false, none, 0, 0, none, 0, 0, false, rfl, tv_zero _ _, (((((bw1.sc w.heap.size 0 (by omega) (.bool false)).sc w.heap.size 1 (by omega) (.slice none 0 0)).sc w.heap.size 2 (by omega) (.slice none 0 0)).sc w.heap.size 3 (by omega) (.bool false)).alloc (by first | omega | (simp <;> omega)) (.cells #[.bool b1, .slice A1 n1 c1, .slice A'1 n'1 c'1] 24))⟩
theorem RetTe.mono {w : World} {v : Value} {t : TN} {k j : Nat} {e : Ending} {w' : World} (h : RetTe w v t k e w') (hk : k ≤ j) : RetTe w v t j e w' := by
 obtain ⟨b, A, n, c, A', n', c', x, h1, h2, h3⟩ := h
 exact ⟨b, A, n, c, A', n', c', x, h1, h2.mono hk, h3⟩
theorem eV0 : errV 0 = .nilIface := if_pos rfl
theorem eV2 : errV 2 = .iface 57 (.int .i64 2) := if_neg (by decide)
theorem t_Of_o (w : World) (b A n c D m e q k) (h : QZ w b A n c D m e q k) (b' A' n' c' D' m' e' q' k') (h' : QZ w b' A' n' c' D' m' e' q' k') (x : Int) (hx : ofX q q' = x) (t : TN) (ht : ofT q q' = t) (h0 : 0 < k) (hk : k ≤ 100000) (h0' : 0 < k') (hk' : k' ≤ 100000) : Calls Tryz.prog 7 #[.agg #[.bool b, .slice A n c, .slice D m e], .agg #[.bool b', .slice A' n' c', .slice D' m' e']] w (RetTe w (errV x) t (10 * k + 10 * k' + 20)) := by
 subst hx ht
 by_cases hc : onC q q'
 ·rw [show ofX q q' = 0 from if_pos hc, show ofT q q' = tof q q' from if_pos hc, eV0]
  exact (t_Of w b A n c D m e q k h b' A' n' c' D' m' e' q' k' h' h0 (by omega) h0' (by omega) hc).mono fun _ _ r => r.mono (by omega)
 ·rw [show ofX q q' = 2 from if_neg hc, show ofT q q' = tzero from if_neg hc, eV2]
  exact (t_Of_bad w b A n c D m e q k h b' A' n' c' D' m' e' q' k' h' h0 hk h0' hk' hc).mono fun _ _ r => r.mono (by omega)
theorem u_Of_o (w : World) (b A n c D m e q k) (h : QZ w b A n c D m e q k) (b' A' n' c' D' m' e' q' k') (h' : QZ w b' A' n' c' D' m' e' q' k') (x : Int) (hx : ofX q q' = x) (t : TN) (ht : ofT q q' = t) (h0 : 0 < k) (hk : k ≤ 100000) (h0' : 0 < k') (hk' : k' ≤ 100000) : Calls Tryz.prog 10 #[.agg #[.bool b, .slice A n c, .slice D m e], .agg #[.bool b', .slice A' n' c', .slice D' m' e']] w (RetTe w (.int .i64 x) t (10 * k + 10 * k' + 20)) := by
 subst hx ht
 by_cases hc : onC q q'
 ·rw [show ofX q q' = 0 from if_pos hc, show ofT q q' = tof q q' from if_pos hc]
  by_cases hz : q = ((-1 : Int) : Rat)
  ·exact (u_Of_half w b A n c D m e q k h b' A' n' c' D' m' e' q' k' h' h0 hk h0' hk' hc hz).mono fun _ _ r => r.mono (by omega)
  ·exact (u_Of_good w b A n c D m e q k h b' A' n' c' D' m' e' q' k' h' h0 hk h0' hk' hc hz).mono fun _ _ r => r.mono (by omega)
 ·rw [show ofX q q' = 2 from if_neg hc, show ofT q q' = tzero from if_neg hc]
  exact (u_Of_bad w b A n c D m e q k h b' A' n' c' D' m' e' q' k' h' h0 hk h0' hk' hc).mono fun _ _ r => r.mono (by omega)
theorem u_Tow_o (w : World) (b A n c D m e q k) (h : QZ w b A n c D m e q k) (b' A' n' c' D' m' e' q' k') (h' : QZ w b' A' n' c' D' m' e' q' k') (x : Int) (hx : towX q q' = x) (t : TN) (ht : towT q q' = t) (h0 : 0 < k) (hk : k ≤ 100000) (h0' : 0 < k') (hk' : k' ≤ 100000) : Calls Tryz.prog 11 #[.agg #[.bool b, .slice A n c, .slice D m e, .bool b', .slice A' n' c', .slice D' m' e']] w (RetTe w (.int .i64 x) t (10 * k + 10 * k' + 20)) := by
 subst hx ht
 by_cases hc : q * q + q' * q' = 0
 ·rw [show towX q q' = 8 from if_pos hc, show towT q q' = tzero from if_pos hc]
  exact (u_Tow_zero w b A n c D m e q k h b' A' n' c' D' m' e' q' k' h' h0 hk h0' hk' hc).mono fun _ _ r => r.mono (by omega)
 ·rw [show towX q q' = 0 from if_neg hc]
  by_cases hz : q = 0
  ·exact u_Tow_half w b A n c D m e q k h b' A' n' c' D' m' e' q' k' h' h0 hk h0' hk' hc hz
  ·exact u_Tow_good w b A n c D m e q k h b' A' n' c' D' m' e' q' k' h' h0 hk h0' hk' hc hz
def ParOut (s : List UInt8) (x : Int) (t : TN) : Prop := (s = halfS ∧ x = 0 ∧ t = thalf) ∨ (s ≠ halfS ∧ ∃ q, FracOut s x q ∧ ((x = 0 ∧ t = ⟨q, false⟩) ∨ (x ≠ 0 ∧ t = tzero)))
theorem parOut (s : List UInt8) : ∃ x t, ParOut s x t := by
 by_cases hs : s = halfS
 ·exact ⟨0, thalf, .inl ⟨hs, rfl, rfl⟩⟩
 ·obtain ⟨x, q, h⟩ := fracOut s
  by_cases hx : x = 0
  ·exact ⟨x, _, .inr ⟨hs, q, h, .inl ⟨hx, rfl⟩⟩⟩
  ·exact ⟨x, _, .inr ⟨hs, q, h, .inr ⟨hx, rfl⟩⟩⟩
theorem t_Parse_o (w : World) (s : List UInt8) (x : Int) (t : TN) (hmx : Mx w) (h : ParOut s x t) : Calls Tryz.prog 9 #[strV s] w (RetTe w (errV x) t 65536) := by
 rcases h with ⟨h1, rfl, rfl⟩ | ⟨h1, q, h2, ⟨rfl, rfl⟩ | ⟨h3, rfl⟩⟩
 ·rw [eV0]; exact t_Parse_half w s h1
 ·rw [eV0]; exact t_Parse_ok w s q hmx h2 h1
 ·rw [show errV x = .iface 57 (.int .i64 x) from if_neg h3]; exact t_Parse_bad w s x q hmx h2 h3 h1
theorem u_Parse_o (w : World) (s : List UInt8) (x : Int) (t : TN) (h : ParOut s x t) : Calls Tryz.prog 12 #[strV s] w (RetTe w (.int .i64 x) t 65536) := by
 rcases h with ⟨h1, rfl, rfl⟩ | ⟨h1, q, h2, ⟨rfl, rfl⟩ | ⟨h3, rfl⟩⟩
 ·exact u_Parse_half w s h1
 ·exact u_Parse_ok w s q h2 h1
 ·exact u_Parse_bad w s x q h2 h3 h1
end Go.Proofs.YtianjkiakkclgaaGreatDoor
namespace Go.Proofs.YtianjkiakkclgaaGreatDoor
open Go Go.RowKit Bn
attribute [local go_sem ↓] Go.wp_at_zero Go.wp_at_succ
def Rs (w : World) (g N : Nat) (ns ms : Nat → Nat) : Prop := g < w.heap.size ∧ ∀ i, i < N → ∃ b A c D e, w.cell? ⟨g, i * 3, none⟩ = some (.bool b) ∧ w.cell? ⟨g, i * 3 + 1, none⟩ = some (.slice A (ns i) c) ∧ w.cell? ⟨g, i * 3 + 2, none⟩ = some (.slice D (ms i) e)
theorem Rs.belw {w w' : World} {g N : Nat} {ns ms : Nat → Nat} (h : Rs w g N ns ms) (hb : Below w.heap.size w w') : Rs w' g N ns ms := by
 obtain ⟨hg, h⟩ := h
 have hc := (bcell hb).1
 refine ⟨Nat.lt_of_lt_of_le hg hb.size, fun i hi => ?_⟩
 obtain ⟨b, A, c, D, e, h1, h2, h3⟩ := h i hi
 exact ⟨b, A, c, D, e, (hc _ _ hg).trans h1, (hc _ _ hg).trans h2, (hc _ _ hg).trans h3⟩
def RetSh (w : World) (N : Nat) (ns ms : Nat → Nat) (e : Ending) (w' : World) : Prop := ∃ r : Bool, e = .returned (.bool r) ∧ (r = true → ∀ i, i < N → ns i ≤ 6 ∧ ms i ≤ 6) ∧ Below w.heap.size w w'
theorem l_short (w : World) (g N : Nat) (ns ms : Nat → Nat) (h : Rs w g N ns ms) (hN : N ≤ 1000) :
  Calls Tryz.prog 6 #[.slice (some ⟨g, 0, none⟩) N N] w (RetSh w N ns ms) := by
 go_enter Tryz.func6, Tryz.ntmps6
 go_wp2_with fail
 go_loopw [7] (fun iv wr => ∃ i : Nat, i ≤ N ∧ iv = .int .i64 (i : Nat) ∧ (∀ j, j < i → ns j ≤ 6 ∧ ms j ≤ 6) ∧ Below w.heap.size w wr) (fun iv _ => N - (intOf iv).toNat)
 case atStart => exact ⟨0, Nat.zero_le _, rfl, fun j hj => absurd hj (by omega), brefl w⟩
 case round =>
  obtain ⟨i, hi, rfl, hall, hb⟩ := hrel
  have HA := Lib.hid hall
  have HB := Lib.hid hb
  by_cases hlt : i < N
  ·have hw := h.belw hb
   obtain ⟨b, A, c, D, e, c0, c1, c2⟩ := hw.2 i hlt
   have hgl := hw.1
   have H := Lib.hid h
   obtain ⟨p, hp⟩ : ∃ p, ns i = p := ⟨_, rfl⟩
   obtain ⟨q, hq⟩ : ∃ q, ms i = q := ⟨_, rfl⟩
   rw [hp] at c1
   rw [hq] at c2
   have HP := Lib.hid (And.intro hp hq)
   clear h hw hall hb hp hq
   by_cases h1 : p ≤ 6
   ·by_cases h2 : q ≤ 6
    ·go_wp2_with fail
     go_roundw
     case rel => exact ⟨i + 1, by omega, by go_num, fun j hj => by
      by_cases hji : j = i
      ·subst hji; rw [HP.out.1, HP.out.2]; exact ⟨h1, h2⟩
      ·exact HA.out j (by omega), HB.out.alloc HB.out.size _⟩
     case measure => simp [intOf]; omega
    ·go_wp2_with fail
     go_ret
     exact ⟨false, rfl, (fun h => nomatch h), HB.out.alloc HB.out.size _⟩
   ·go_wp2_with fail
    go_ret
    exact ⟨false, rfl, (fun h => nomatch h), HB.out.alloc HB.out.size _⟩
  ·have hiN : i = N := by omega
   subst hiN
   clear h hall hb
   go_wp2_with fail
   go_ret
   exact ⟨true, rfl, fun _ => HA.out, HB.out⟩
def Gs (w : World) (g N k : Nat) (rs : Nat → RD) (xs : Nat → Bool) : Prop := g < w.heap.size ∧ ∀ i, i < N → ∃ b A m c D m' e, w.cell? ⟨g, i * 4, none⟩ = some (.bool b) ∧ w.cell? ⟨g, i * 4 + 1, none⟩ = some (.slice A m c) ∧ w.cell? ⟨g, i * 4 + 2, none⟩ = some (.slice D m' e) ∧ w.cell? ⟨g, i * 4 + 3, none⟩ = some (.bool (xs i)) ∧ QD w b A m c D m' e (rs i) k
theorem Gs.belw {w w' : World} {g N k : Nat} {rs : Nat → RD} {xs : Nat → Bool} (h : Gs w g N k rs xs) (hb : Below w.heap.size w w') : Gs w' g N k rs xs := by
 obtain ⟨hg, h⟩ := h
 have hc := (bcell hb).1
 refine ⟨Nat.lt_of_lt_of_le hg hb.size, fun i hi => ?_⟩
 obtain ⟨b, A, m, c, D, m', e, h1, h2, h3, h4, h5⟩ := h i hi
 exact ⟨b, A, m, c, D, m', e, (hc _ _ hg).trans h1, (hc _ _ hg).trans h2, (hc _ _ hg).trans h3, (hc _ _ hg).trans h4, h5.belw hb⟩
end Go.Proofs.YtianjkiakkclgaaGreatDoor
namespace Go.Proofs.YtianjkiakkclgaaGreatDoor
open Go Go.RowKit Bn
attribute [local go_sem ↓] Go.wp_at_zero Go.wp_at_succ
theorem b_words (w : World) (A n c l) (wa : Wd w A n c l) (A' : Option Addr) (n' c' : Nat) (wb : Wd w A' n' c' l) (hn : n ≤ 1000000000) :
  Calls Tryz.prog 47 #[.slice A n c, .slice A' n' c'] w (RetV w (.bool true)) := by
 have hnn : n' = n := by rw [wa.2.1, wb.2.1]
 subst hnn
 have HA := Lib.hid wa
 have HB := Lib.hid wb
 clear wa wb
 go_enter Tryz.func47, Tryz.ntmps47
 go_wp2_with fail
 go_loopw [5] (fun iv wr => ∃ (i q : Nat), i ≤ n' ∧ iv = .int .i64 (i : Nat) ∧ wr = w.drewN q) (fun iv _ => n' - (intOf iv).toNat)
 case atStart => exact ⟨0, 0, Nat.zero_le _, rfl, rfl⟩
 case round =>
  obtain ⟨i, q, hi, rfl, rfl⟩ := hrel
  by_cases hlt : i < n'
  ·obtain ⟨g, o, rfl, hc1⟩ := HA.out.at_ (by omega)
   obtain ⟨g', o', rfl, hc2⟩ := HB.out.at_ (by omega)
   have h1 := hc1 i hlt
   have h2 := hc2 i hlt
   have hi0 : (0 : Int) ≤ (i : Int) := by omega
   have hi1 : (i : Int) < (n' : Int) := by omega
   generalize wd l i = x at h1 h2
   clear hc1 hc2
   go_wp2_with fail
   go_quiet (fail)
   go_wp2
   go_roundw
   case rel => exact ⟨i + 1, _, by omega, by go_num, rfl⟩
   case measure => simp [intOf]; omega
  ·go_wp2
   go_ret
   exact retB rfl (by repeat (first | exact Below.refl _ _ | refine below_drewN ?_ _))
theorem b_rat (w : World) (b : Bool) (A : Option Addr) (n c : Nat) (D : Option Addr) (m e : Nat) (b' : Bool) (A' : Option Addr) (n' c' : Nat) (D' : Option Addr) (m' e' : Nat) (q : Rat) (k k' : Nat) (h : QV w b A n c D m e q k) (h' : QV w b' A' n' c' D' m' e' q k') (hk : k ≤ 1000000) :
  Calls Tryz.prog 21 #[.agg #[.bool b, .slice A n c, .slice D m e], .agg #[.bool b', .slice A' n' c', .slice D' m' e']] w (RetV w (.bool true)) := by
 obtain ⟨e1, ha, hd, hk1, hk2⟩ := h
 obtain ⟨e1', ha', hd', _, _⟩ := h'
 subst e1 e1'
 have HE : ((rd q).neg == (rd q).neg) = true := by simp
 have HA := Lib.hid (And.intro ha ha')
 have HD := Lib.hid (And.intro hd hd')
 clear ha ha' hd hd'
 go_enter Tryz.func21, Tryz.ntmps21
 go_wp2_with fail
 (with_reducible refine (b_words _ A n c (rd q).num ?_ A' n' c' ?_ ?_).mono ?_); (exact HA.out.1.keep (((Kp.refl _).alloc _).alloc _)); (exact HA.out.2.keep (((Kp.refl _).alloc _).alloc _)); omega; rintro e w1 ⟨rfl, hb⟩
 have q1 : Below w.heap.size w w1 := (((Below.refl _ _).alloc (Nat.le_refl _) _).alloc (by simp) _).trans (hb.mono (by simp <;> omega))
 have x0 : Blk w1 w.heap.size 24 #[.bool (rd q).neg, .slice A n c, .slice D m e] := ((blkAt w _ _ rfl).alloc _).below hb (by simp <;> omega)
 have x1 : Blk w1 (w.heap.size + 1) 24 #[.bool (rd q).neg, .slice A' n' c', .slice D' m' e'] := (blkAt _ _ _ (by simp)).below hb (by simp)
 have c02 : w1.cell? ⟨w.heap.size, 2, none⟩ = some (.slice D m e) := x0.cell 2
 have c12 : w1.cell? ⟨w.heap.size + 1, 2, none⟩ = some (.slice D' m' e') := x1.cell 2
 clear hb
 go_wp2_with fail
 (with_reducible refine (b_words _ D m e (rd q).den ?_ D' m' e' ?_ ?_).mono ?_); (exact HD.out.1.belw q1); (exact HD.out.2.belw q1); omega; rintro e w2 ⟨rfl, hb2⟩
 go_wp2_with fail
 go_ret
 exact ⟨rfl, q1.trans (hb2.mono q1.size)⟩
end Go.Proofs.YtianjkiakkclgaaGreatDoor
namespace Go.Proofs.YtianjkiakkclgaaGreatDoor
open Go Go.RowKit Bn
attribute [local go_sem ↓] Go.wp_at_zero Go.wp_at_succ
theorem l_part (w : World) (i j : Int) (hi : -4294967296 < i) (hi2 : i < 4294967296) (hj : -4294967296 < j) (hj2 : j < 4294967296) (q : Rat) (K : Nat) (hd : j ≠ 0) (hq : Rat.divInt i j = q) (hs : Sz q K) :
  Calls Tryz.prog 18 #[.int .i64 i, .int .i64 j] w (RetF w q K) := by
 have HD := Lib.hid hd
 have HQ := Lib.hid hq
 have HS := Lib.hid hs
 clear hd hq hs
 go_enter Tryz.func18, Tryz.ntmps18
 go_wp2_with fail
 (with_reducible refine (g_make _ (i) (j) hi hi2 hj hj2 q K ?_ ?_ ?_).mono ?_); (exact HD.out); (exact HQ.out); (exact HS.out); rintro e w1 ⟨b1, A1, n1, c1, A'1, n'1, c'1, rfl, h1, hb1⟩
 have q1 := hb1.q1
 have x1a : Blk w1 w.heap.size 24 #[.bool false, .slice none 0 0, .slice none 0 0] := (blkAt _ _ _ (by simp)).below hb1 (by simp)
 have bw1 := (brefl w).trans (q1.mono (brefl w).size)
 have lw1 := hb1.l1
 clear q1
 have cx1a := x1a.c3
 have fx1a := x1a.f3
 have lx1a := lts0 x1a.lt
 go_wp2_with fail
 refine bodyPost_ret (v := .agg #[.bool b1, .slice A1 n1 c1, .slice A'1 n'1 c'1]) (by simp [results, Tryz.results18, go_sem, *] <;> trivial) rfl ?_
 exact ⟨b1, A1, n1, c1, A'1, n'1, c'1, rfl, h1.keep (((((Kp.refl w1).sb w.heap.size 0 x1a.box (by decide) (.bool b1)).sb w.heap.size 1 (x1a.box.set ⟨w.heap.size, 0, none⟩ (.bool b1)) (by decide) (.slice A1 n1 c1)).sb w.heap.size 2 ((x1a.box.set ⟨w.heap.size, 0, none⟩ (.bool b1)).set ⟨w.heap.size, 1, none⟩ (.slice A1 n1 c1)) (by decide) (.slice A'1 n'1 c'1)).alloc (.cells #[.bool b1, .slice A1 n1 c1, .slice A'1 n'1 c'1] 24)), ((((bw1.sc w.heap.size 0 (by omega) (.bool b1)).sc w.heap.size 1 (by omega) (.slice A1 n1 c1)).sc w.heap.size 2 (by omega) (.slice A'1 n'1 c'1)).alloc (by first | omega | (simp <;> omega)) (.cells #[.bool b1, .slice A1 n1 c1, .slice A'1 n'1 c'1] 24))⟩
theorem sz_dec {q : Rat} (h : (decide (q.num.natAbs < 4294967296) && decide (q.den < 4294967296)) = true) : Sz q 1 := by
 simp only [Bool.and_eq_true, decide_eq_true_eq] at h
 exact ⟨by rw [Nat.pow_one]; exact h.1, by rw [Nat.pow_one]; exact h.2⟩
theorem aw_cos : tcos ⟨Rat.divInt 1 2, false⟩ = Rat.divInt 3 5 := by kernel_rfl
theorem aw_sin : tsin ⟨Rat.divInt 1 2, false⟩ = Rat.divInt 4 5 := by kernel_rfl
theorem aw_half : (tadd ⟨Rat.divInt 1 1, false⟩ ⟨Rat.divInt 1 1, false⟩).h = true := by kernel_rfl
theorem b_rat_e (w : World) (b A n c D m e q k) (h : QV w b A n c D m e q k) (b' A' n' c' D' m' e' q' k') (h' : QV w b' A' n' c' D' m' e' q' k') (hq : q = q') (hk : k ≤ 1000000) :
  Calls Tryz.prog 21 #[.agg #[.bool b, .slice A n c, .slice D m e], .agg #[.bool b', .slice A' n' c', .slice D' m' e']] w (RetV w (.bool true)) := by
 subst hq; exact b_rat w b A n c D m e b' A' n' c' D' m' e' q k k' h h' hk
theorem l_awake (w : World)  :
    Calls Tryz.prog 5 #[] w (RetV w (.bool true)) := by
  go_enter Tryz.func5, Tryz.ntmps5
  go_wp2_with fail
  (with_reducible refine (l_part _ (1) (2) (by decide) (by decide) (by decide) (by decide) (Rat.divInt 1 2) 1 ?_ ?_ ?_).mono ?_); (decide); (rfl); (exact sz_dec (by kernel_rfl)); rintro e w1 ⟨b1, A1, n1, c1, A'1, n'1, c'1, rfl, h1, q1⟩
  have bw1 := (brefl w).trans (q1.mono (brefl w).size)
  have lw1 := q1.size
  clear q1
  go_wp2_with fail
  have hF1 := TV.frac h1
  (with_reducible refine (t_cos _ b1 A1 n1 c1 A'1 n'1 c'1 false (⟨(Rat.divInt 1 2), false⟩) (1) ?_ ?_ ?_).mono ?_); (exact hF1.tk); omega; omega; rintro e w2 ⟨b2, A2, n2, c2, A'2, n'2, c'2, rfl, h2, q2⟩
  replace h1 := h1.belw q2
  replace hF1 := hF1.belw q2
  have bw2 := bw1.trans (q2.mono bw1.size)
  have lw2 := q2.size
  clear q2 bw1
  go_wp2_with fail
  (with_reducible refine (l_part _ (1) (2) (by decide) (by decide) (by decide) (by decide) (Rat.divInt 1 2) 1 ?_ ?_ ?_).mono ?_); (decide); (rfl); (exact sz_dec (by kernel_rfl)); rintro e w3 ⟨b3, A3, n3, c3, A'3, n'3, c'3, rfl, h3, hb3⟩
  have q3 := hb3.q1
  replace h1 := h1.belw q3
  replace hF1 := hF1.belw q3
  replace h2 := h2.belw q3
  have x3a : Blk w3 w2.heap.size 24 #[.bool b2, .slice A2 n2 c2, .slice A'2 n'2 c'2] := (blkAt _ _ _ (by simp)).below hb3 (by simp)
  have bw3 := bw2.trans (q3.mono bw2.size)
  have lw3 := hb3.l1
  clear q3 bw2
  go_wp2_with fail
  have hF2 := TV.frac h3
  (with_reducible refine (t_sin _ b3 A3 n3 c3 A'3 n'3 c'3 false (⟨(Rat.divInt 1 2), false⟩) (1) ?_ ?_ ?_).mono ?_); (exact hF2.tk); omega; omega; rintro e w4 ⟨b4, A4, n4, c4, A'4, n'4, c'4, rfl, h4, q4⟩
  replace h1 := h1.belw q4
  replace hF1 := hF1.belw q4
  replace h2 := h2.belw q4
  replace h3 := h3.belw q4
  replace hF2 := hF2.belw q4
  replace x3a := x3a.b q4
  have bw4 := bw3.trans (q4.mono bw3.size)
  have lw4 := q4.size
  clear q4 bw3
  go_wp2_with fail
  (with_reducible refine (l_part _ (1) (1) (by decide) (by decide) (by decide) (by decide) (Rat.divInt 1 1) 1 ?_ ?_ ?_).mono ?_); (decide); (rfl); (exact sz_dec (by kernel_rfl)); rintro e w5 ⟨b5, A5, n5, c5, A'5, n'5, c'5, rfl, h5, hb5⟩
  have q5 := hb5.q1
  replace h1 := h1.belw q5
  replace hF1 := hF1.belw q5
  replace h2 := h2.belw q5
  replace h3 := h3.belw q5
  replace hF2 := hF2.belw q5
  replace h4 := h4.belw q5
  replace x3a := x3a.b q5
  have x5a : Blk w5 w4.heap.size 24 #[.bool b4, .slice A4 n4 c4, .slice A'4 n'4 c'4] := (blkAt _ _ _ (by simp)).below hb5 (by simp)
  have bw5 := bw4.trans (q5.mono bw4.size)
  have lw5 := hb5.l1
  clear q5 bw4
  go_wp2_with fail
  have hF3 := TV.frac h5
  (with_reducible refine (l_part _ (1) (1) (by decide) (by decide) (by decide) (by decide) (Rat.divInt 1 1) 1 ?_ ?_ ?_).mono ?_); (decide); (rfl); (exact sz_dec (by kernel_rfl)); rintro e w6 ⟨b6, A6, n6, c6, A'6, n'6, c'6, rfl, h6, q6⟩
  replace h1 := h1.belw q6
  replace hF1 := hF1.belw q6
  replace h2 := h2.belw q6
  replace h3 := h3.belw q6
  replace hF2 := hF2.belw q6
  replace h4 := h4.belw q6
  replace h5 := h5.belw q6
  replace hF3 := hF3.belw q6
  replace x3a := x3a.b q6
  replace x5a := x5a.b q6
  have bw6 := bw5.trans (q6.mono bw5.size)
  have lw6 := q6.size
  clear q6 bw5
  go_wp2_with fail
  have hF4 := TV.frac h6
  (with_reducible refine (t_Add _ b5 A5 n5 c5 A'5 n'5 c'5 false (⟨(Rat.divInt 1 1), false⟩) (1) ?_ b6 A6 n6 c6 A'6 n'6 c'6 false (⟨(Rat.divInt 1 1), false⟩) (1) ?_ ?_ ?_ ?_ ?_).mono ?_); (exact hF3.tk); (exact hF4.tk); (iterate 4 omega); rintro e w7 ⟨b7, A7, n7, c7, A'7, n'7, c'7, x7, rfl, h7, q7⟩
  replace h1 := h1.belw q7
  replace hF1 := hF1.belw q7
  replace h2 := h2.belw q7
  replace h3 := h3.belw q7
  replace hF2 := hF2.belw q7
  replace h4 := h4.belw q7
  replace h5 := h5.belw q7
  replace hF3 := hF3.belw q7
  replace h6 := h6.belw q7
  replace hF4 := hF4.belw q7
  replace x3a := x3a.b q7
  replace x5a := x5a.b q7
  have bw7 := bw6.trans (q7.mono bw6.size)
  have lw7 := q7.size
  clear q7 bw6
  go_wp2_with fail
  obtain rfl : x7 = true := h7.2.1.trans aw_half
  rw [aw_cos] at h2
  rw [aw_sin] at h4
  have p8 := ((Kp.refl w7).alloc (.cells #[.bool b7, .slice A7 n7 c7, .slice A'7 n'7 c'7, .bool true] 28))
  have bw8 := (bw7.alloc (by first | omega | (simp <;> omega)) (.cells #[.bool b7, .slice A7 n7 c7, .slice A'7 n'7 c'7, .bool true] 28))
  have x8a : Blk (w7.alloc (.cells #[.bool b7, .slice A7 n7 c7, .slice A'7 n'7 c'7, .bool true] 28)) w7.heap.size 28 #[.bool b7, .slice A7 n7 c7, .slice A'7 n'7 c'7, .bool true] := (blkAt _ _ _ (by simp))
  replace x3a := (x3a.alloc (.cells #[.bool b7, .slice A7 n7 c7, .slice A'7 n'7 c'7, .bool true] 28))
  replace x5a := (x5a.alloc (.cells #[.bool b7, .slice A7 n7 c7, .slice A'7 n'7 c'7, .bool true] 28))
  have lw8 : w7.heap.size + 1 ≤ (w7.alloc (.cells #[.bool b7, .slice A7 n7 c7, .slice A'7 n'7 c'7, .bool true] 28)).heap.size := by simp
  generalize hE8 : (w7.alloc (.cells #[.bool b7, .slice A7 n7 c7, .slice A'7 n'7 c'7, .bool true] 28)) = w8 at p8 bw8 lw8 x8a x3a x5a ⊢
  clear hE8
  replace h1 := h1.keep p8
  replace hF1 := hF1.keep p8
  replace h2 := h2.keep p8
  replace h3 := h3.keep p8
  replace hF2 := hF2.keep p8
  replace h4 := h4.keep p8
  replace h5 := h5.keep p8
  replace hF3 := hF3.keep p8
  replace h6 := h6.keep p8
  replace hF4 := hF4.keep p8
  replace h7 := h7.keep p8
  clear bw7
  have cx3aa : w8.cell? ⟨w2.heap.size, 0, none⟩ = some (.bool b2) := x3a.cell 0
  have cx3ab : w8.cell? ⟨w2.heap.size, 1, none⟩ = some (.slice A2 n2 c2) := x3a.cell 1
  have cx3ac : w8.cell? ⟨w2.heap.size, 2, none⟩ = some (.slice A'2 n'2 c'2) := x3a.cell 2
  have lx3a := lts0 x3a.lt
  have cx5aa : w8.cell? ⟨w4.heap.size, 0, none⟩ = some (.bool b4) := x5a.cell 0
  have cx5ab : w8.cell? ⟨w4.heap.size, 1, none⟩ = some (.slice A4 n4 c4) := x5a.cell 1
  have cx5ac : w8.cell? ⟨w4.heap.size, 2, none⟩ = some (.slice A'4 n'4 c'4) := x5a.cell 2
  have lx5a := lts0 x5a.lt
  have cx8a := x8a.c4
  have lx8a := lts0 x8a.lt
  go_region_held3 (fun w' => Sees w8.heap.size w8 w') (first | with_reducible exact Sees.of (Nat.le_refl _) (by assumption) | with_reducible exact Sees.of (Nat.le_refl _) (brefl _).drew | exact Sees.of (Nat.le_refl _) (below_drewN (brefl _) 1) | exact Sees.of (Nat.le_refl _) (below_drewN (by assumption) _))
    (first
      | (go_at_call 18; (with_reducible refine (l_part _ (3) (5) (by decide) (by decide) (by decide) (by decide) (Rat.divInt 3 5) 1 ?_ ?_ ?_).mono ?_); (decide); (rfl); (exact sz_dec (by kernel_rfl)); rintro e w9 ⟨b9, A9, n9, c9, A'9, n'9, c'9, rfl, h9, hb9⟩; replace hb9 := bnext (below_drewN (brefl _) 1) hb9; have q9 : Below w8.heap.size w8 w9 := bnext (brefl w8) hb9; replace h1 := h1.belw hb9; replace hF1 := hF1.belw hb9; replace h2 := h2.belw hb9; replace h3 := h3.belw hb9; replace hF2 := hF2.belw hb9; replace h4 := h4.belw hb9; replace h5 := h5.belw hb9; replace hF3 := hF3.belw hb9; replace h6 := h6.belw hb9; replace hF4 := hF4.belw hb9; replace h7 := h7.belw hb9)
      | (go_at_call 21; (with_reducible refine (b_rat_e _ b2 A2 n2 c2 A'2 n'2 c'2 ((Rat.divInt 3 5)) (4 * (1) + 4) ?_ b9 A9 n9 c9 A'9 n'9 c'9 ((Rat.divInt 3 5)) (1) ?_  ?_ ?_).mono ?_); (exact h2); (exact h9); (rfl); (decide); rintro e w10 ⟨rfl, hb10⟩; have q10 : Below w8.heap.size w8 w10 := bnext q9 hb10; replace h1 := h1.belw hb10; replace hF1 := hF1.belw hb10; replace h2 := h2.belw hb10; replace h3 := h3.belw hb10; replace hF2 := hF2.belw hb10; replace h4 := h4.belw hb10; replace h5 := h5.belw hb10; replace hF3 := hF3.belw hb10; replace h6 := h6.belw hb10; replace hF4 := hF4.belw hb10; replace h7 := h7.belw hb10; replace h9 := h9.belw hb10)
      | (go_at_call 18; (with_reducible refine (l_part _ (4) (5) (by decide) (by decide) (by decide) (by decide) (Rat.divInt 4 5) 1 ?_ ?_ ?_).mono ?_); (decide); (rfl); (exact sz_dec (by kernel_rfl)); rintro e w11 ⟨b11, A11, n11, c11, A'11, n'11, c'11, rfl, h11, hb11⟩; have q11 : Below w8.heap.size w8 w11 := bnext q10 hb11; replace h1 := h1.belw hb11; replace hF1 := hF1.belw hb11; replace h2 := h2.belw hb11; replace h3 := h3.belw hb11; replace hF2 := hF2.belw hb11; replace h4 := h4.belw hb11; replace h5 := h5.belw hb11; replace hF3 := hF3.belw hb11; replace h6 := h6.belw hb11; replace hF4 := hF4.belw hb11; replace h7 := h7.belw hb11; replace h9 := h9.belw hb11)
      | (go_at_call 21; (with_reducible refine (b_rat_e _ b4 A4 n4 c4 A'4 n'4 c'4 ((Rat.divInt 4 5)) (4 * (1) + 4) ?_ b11 A11 n11 c11 A'11 n'11 c'11 ((Rat.divInt 4 5)) (1) ?_  ?_ ?_).mono ?_); (exact h4); (exact h11); (rfl); (decide); rintro e w12 ⟨rfl, hb12⟩; have q12 : Below w8.heap.size w8 w12 := bnext q11 hb12; replace h1 := h1.belw hb12; replace hF1 := hF1.belw hb12; replace h2 := h2.belw hb12; replace h3 := h3.belw hb12; replace hF2 := hF2.belw hb12; replace h4 := h4.belw hb12; replace h5 := h5.belw hb12; replace hF3 := hF3.belw hb12; replace h6 := h6.belw hb12; replace hF4 := hF4.belw hb12; replace h7 := h7.belw hb12; replace h9 := h9.belw hb12; replace h11 := h11.belw hb12))
  have bw12 := bw8.trans (q12.mono bw8.size)
  clear cx3aa cx3ab cx3ac lx3a cx5aa cx5ab cx5ac lx5a cx8a lx8a
  replace x3a := x3a.b q12
  replace x5a := x5a.b q12
  replace x8a := x8a.b q12
  have lw12 := q12.size
  go_wp2_with fail
  go_ret
  exact retB rfl bw12
end Go.Proofs.YtianjkiakkclgaaGreatDoor
namespace Go.Proofs.YtianjkiakkclgaaGreatDoor
open Go Go.RowKit Bn
attribute [local go_sem ↓] Go.wp_at_zero Go.wp_at_succ
theorem QD.short {w : World} {b : Bool} {A D : Option Addr} {n c m e k : Nat} {r : RD} (h : QD w b A n c D m e r k) (hs : n ≤ 6 ∧ m ≤ 6) : QD w b A n c D m e r 6 := ⟨h.1, h.2.1, h.2.2.1, hs.1, hs.2⟩
end Go.Proofs.YtianjkiakkclgaaGreatDoor
namespace Go.Proofs.YtianjkiakkclgaaGreatDoor
open Go Go.RowKit Bn
attribute [local go_sem ↓] Go.wp_at_zero Go.wp_at_succ
theorem rs2 {w : World} {g : Nat} {T : TypeId} {b : Bool} {A : Option Addr} {n c : Nat} {D : Option Addr} {m e : Nat} {b1 : Bool} {A1 : Option Addr} {n1 c1 : Nat} {D1 : Option Addr} {m1 e1 : Nat}
  (hb : Blk w g T #[.bool b, .slice A n c, .slice D m e, .bool b1, .slice A1 n1 c1, .slice D1 m1 e1]) : Rs w g 2 (fun i : Nat => if i = 0 then n else n1) (fun i : Nat => if i = 0 then m else m1) := by
 refine ⟨hb.lt, fun i hi => ?_⟩
 match i, hi with
 | 0, _ => exact ⟨_, _, _, _, _, hb.cell 0, hb.cell 1, hb.cell 2⟩
 | 1, _ => exact ⟨_, _, _, _, _, hb.cell 3, hb.cell 4, hb.cell 5⟩
theorem l_TurnMakes (w : World) (b : Bool) (A : Option Addr) (n c : Nat) (D : Option Addr) (m e : Nat) (rx : RD) (k : Nat) (Hrx : QD w b A n c D m e rx k) (b' : Bool) (A' : Option Addr) (n' c' : Nat) (D' : Option Addr) (m' e' : Nat) (ry : RD) (k' : Nat) (Hry : QD w b' A' n' c' D' m' e' ry k') (s : List UInt8) (_ : s.length < 9223372036854775808) (_ : Tab w) (hmx : Mx w) :
  Calls Tryz.prog 3 #[.agg #[.bool b, .slice A n c, .slice D m e], .agg #[.bool b', .slice A' n' c', .slice D' m' e'], strV s] w (RetV w (.bool true)) := by
 go_enter Tryz.func3, Tryz.ntmps3
 go_wp2_with fail
 (with_reducible refine (l_awake _).mono ?_); rintro e w1 ⟨rfl, hb1⟩
 have q1 := hb1.q2
 replace Hrx := Hrx.belw q1
 replace Hry := Hry.belw q1
 have x1a : Blk w1 w.heap.size 24 #[.bool b, .slice A n c, .slice D m e] := ((blkAt _ _ _ (by simp)).alloc _).below hb1 (by simp <;> omega)
 have x1b := (blkAt _ _ _ (g := w.heap.size + 1) (by simp)).below hb1 (by simp)
 have bw1 := (brefl w).trans (q1.mono (brefl w).size)
 have lw1 := hb1.l2
 clear q1
 obtain ⟨cx1aa, cx1ab, cx1ac⟩ := x1a.c3
 obtain ⟨lx1aa, lx1ab, lx1ac, lx1ad⟩ := lts0 x1a.lt
 obtain ⟨cx1ba, cx1bb, cx1bc⟩ := x1b.c3
 obtain ⟨lx1ba, lx1bb, lx1bc, lx1bd⟩ := lts1 x1b.lt
 go_wp2_with fail
 (with_reducible refine (l_short _ w1.heap.size 2 (fun i : Nat => if i = 0 then n else n') (fun i : Nat => if i = 0 then m else m') ?_ ?_).mono ?_); (exact rs2 (blkAt _ _ _ (by simp))); (decide); rintro e w2 ⟨r2, rfl, hr2, hb2⟩
 clear cx1aa cx1ab cx1ac lx1aa lx1ab lx1ac lx1ad cx1ba cx1bb cx1bc lx1ba lx1bb lx1bc lx1bd
 have q2 := hb2.q1
 replace Hrx := Hrx.belw q2
 replace Hry := Hry.belw q2
 replace x1a := x1a.b q2
 replace x1b := x1b.b q2
 have x2a : Blk w2 w1.heap.size 24 #[.bool b, .slice A n c, .slice D m e, .bool b', .slice A' n' c', .slice D' m' e'] := (blkAt _ _ _ (by simp)).below hb2 (by simp)
 have bw2 := bw1.trans (q2.mono bw1.size)
 have lw2 := hb2.l1
 clear q2 bw1
 obtain ⟨cx1aa, cx1ab, cx1ac⟩ := x1a.c3
 obtain ⟨lx1aa, lx1ab, lx1ac, lx1ad⟩ := lts0 x1a.lt
 obtain ⟨cx1ba, cx1bb, cx1bc⟩ := x1b.c3
 obtain ⟨lx1ba, lx1bb, lx1bc, lx1bd⟩ := lts1 x1b.lt
 cases r2
 ·go_wp2_with fail
  (with_reducible refine (l_awake _).mono ?_); rintro e w3 ⟨rfl, q3⟩
  clear cx1aa cx1ab cx1ac lx1aa lx1ab lx1ac lx1ad cx1ba cx1bb cx1bc lx1ba lx1bb lx1bc lx1bd
  replace Hrx := Hrx.belw q3
  replace Hry := Hry.belw q3
  replace x1a := x1a.b q3
  replace x1b := x1b.b q3
  replace x2a := x2a.b q3
  have bw3 := bw2.trans (q3.mono bw2.size)
  have lw3 := q3.size
  clear q3 bw2
  go_wp2_with fail
  go_ret
  exact retB rfl bw3
 ·have hs0 := hr2 rfl 0 (by decide)
  have hs1 := hr2 rfl 1 (by decide)
  clear hr2
  replace Hrx := QD.short Hrx hs0
  replace Hry := QD.short Hry hs1
  clear hs0 hs1
  by_cases hl : 200 < s.length
  ·have f1 : ((200 : Int) < (s.length : Int)) = True := eq_true (by omega)
   go_wp2_with fail
   (with_reducible refine (l_awake _).mono ?_); rintro e w3 ⟨rfl, q3⟩
   clear cx1aa cx1ab cx1ac lx1aa lx1ab lx1ac lx1ad cx1ba cx1bb cx1bc lx1ba lx1bb lx1bc lx1bd
   replace Hrx := Hrx.belw q3
   replace Hry := Hry.belw q3
   replace x1a := x1a.b q3
   replace x1b := x1b.b q3
   replace x2a := x2a.b q3
   have bw3 := bw2.trans (q3.mono bw2.size)
   have lw3 := q3.size
   clear q3 bw2
   go_wp2_with fail
   go_ret
   exact retB rfl bw3
  ·have f1 : ((200 : Int) < (s.length : Int)) = False := eq_false (by omega)
   have hQx := QD.qz Hrx
   have hQy := QD.qz Hry
   clear Hrx Hry
   obtain ⟨X1, hX1⟩ : ∃ x, ofX rx.q ry.q = x := ⟨_, rfl⟩
   obtain ⟨T1, hT1⟩ : ∃ x, ofT rx.q ry.q = x := ⟨_, rfl⟩
   obtain ⟨X2, hX2⟩ : ∃ x, towX rx.q ry.q = x := ⟨_, rfl⟩
   obtain ⟨T2, hT2⟩ : ∃ x, towT rx.q ry.q = x := ⟨_, rfl⟩
   obtain ⟨X3, T3, hP⟩ := parOut s
   have HX1 := Lib.hid hX1
   have HT1 := Lib.hid hT1
   have HX2 := Lib.hid hX2
   have HT2 := Lib.hid hT2
   have HP := Lib.hid hP
   clear hX1 hT1 hX2 hT2 hP
   go_wp2_with fail
   (with_reducible refine (t_Of_o _ b A n c D m e (rx.q) (6) ?_ b' A' n' c' D' m' e' (ry.q) (6) ?_ X1 HX1.out T1 HT1.out ?_ ?_ ?_ ?_).mono ?_); (exact hQx); (exact hQy); (iterate 4 omega); rintro e w3 ⟨b3, A3, n3, c3, A'3, n'3, c'3, x3, rfl, h3, q3⟩
   clear cx1aa cx1ab cx1ac lx1aa lx1ab lx1ac lx1ad cx1ba cx1bb cx1bc lx1ba lx1bb lx1bc lx1bd
   replace hQx := hQx.belw q3
   replace hQy := hQy.belw q3
   replace x1a := x1a.b q3
   replace x1b := x1b.b q3
   replace x2a := x2a.b q3
   have bw3 := bw2.trans (q3.mono bw2.size)
   have lw3 := q3.size
   clear q3 bw2
   obtain ⟨cx1aa, cx1ab, cx1ac⟩ := x1a.c3
   obtain ⟨lx1aa, lx1ab, lx1ac, lx1ad⟩ := lts0 x1a.lt
   obtain ⟨cx1ba, cx1bb, cx1bc⟩ := x1b.c3
   obtain ⟨lx1ba, lx1bb, lx1bc, lx1bd⟩ := lts1 x1b.lt
   go_wp2_with fail
   (with_reducible refine (t_Tow_o _ b A n c D m e (rx.q) (6) ?_ b' A' n' c' D' m' e' (ry.q) (6) ?_ X2 HX2.out T2 HT2.out ?_ ?_ ?_ ?_).mono ?_); (exact (hQx.belw ((Below.refl _ _).alloc (Nat.le_refl _) _))); (exact (hQy.belw ((Below.refl _ _).alloc (Nat.le_refl _) _))); (iterate 4 omega); rintro e w4 ⟨b4, A4, n4, c4, A'4, n'4, c'4, x4, rfl, h4, hb4⟩
   clear cx1aa cx1ab cx1ac lx1aa lx1ab lx1ac lx1ad cx1ba cx1bb cx1bc lx1ba lx1bb lx1bc lx1bd
   have q4 := hb4.q1
   replace hQx := hQx.belw q4
   replace hQy := hQy.belw q4
   replace h3 := h3.belw q4
   replace x1a := x1a.b q4
   replace x1b := x1b.b q4
   replace x2a := x2a.b q4
   have x4a : Blk w4 w3.heap.size 28 #[.bool b3, .slice A3 n3 c3, .slice A'3 n'3 c'3, .bool x3] := (blkAt _ _ _ (by simp)).below hb4 (by simp)
   have bw4 := bw3.trans (q4.mono bw3.size)
   have lw4 := hb4.l1
   clear q4 bw3
   go_wp2_with fail
   (with_reducible refine (t_Parse_o _ (s) X3 T3 (hmx.belw (bw4.alloc (by first | omega | (simp <;> omega)) (.cells #[.bool b4, .slice A4 n4 c4, .slice A'4 n'4 c'4, .bool x4] 28))) HP.out).mono ?_); rintro e w5 ⟨b5, A5, n5, c5, A'5, n'5, c'5, x5, rfl, h5, hb5⟩
   have q5 := hb5.q1
   replace hQx := hQx.belw q5
   replace hQy := hQy.belw q5
   replace h3 := h3.belw q5
   replace h4 := h4.belw q5
   replace x1a := x1a.b q5
   replace x1b := x1b.b q5
   replace x2a := x2a.b q5
   replace x4a := x4a.b q5
   have x5a : Blk w5 w4.heap.size 28 #[.bool b4, .slice A4 n4 c4, .slice A'4 n'4 c'4, .bool x4] := (blkAt _ _ _ (by simp)).below hb5 (by simp)
   have bw5 := bw4.trans (q5.mono bw4.size)
   have lw5 := hb5.l1
   clear q5 bw4
   obtain ⟨cx1aa, cx1ab, cx1ac⟩ := x1a.c3
   obtain ⟨lx1aa, lx1ab, lx1ac, lx1ad⟩ := lts0 x1a.lt
   obtain ⟨cx1ba, cx1bb, cx1bc⟩ := x1b.c3
   obtain ⟨lx1ba, lx1bb, lx1bc, lx1bd⟩ := lts1 x1b.lt
   go_wp2_with fail
   (with_reducible refine (u_Of_o _ b A n c D m e (rx.q) (6) ?_ b' A' n' c' D' m' e' (ry.q) (6) ?_ X1 HX1.out T1 HT1.out ?_ ?_ ?_ ?_).mono ?_); (exact (hQx.belw ((Below.refl _ _).alloc (Nat.le_refl _) _))); (exact (hQy.belw ((Below.refl _ _).alloc (Nat.le_refl _) _))); (iterate 4 omega); rintro e w6 ⟨b6, A6, n6, c6, A'6, n'6, c'6, x6, rfl, h6, hb6⟩
   clear cx1aa cx1ab cx1ac lx1aa lx1ab lx1ac lx1ad cx1ba cx1bb cx1bc lx1ba lx1bb lx1bc lx1bd
   have q6 := hb6.q1
   replace hQx := hQx.belw q6
   replace hQy := hQy.belw q6
   replace h3 := h3.belw q6
   replace h4 := h4.belw q6
   replace h5 := h5.belw q6
   replace x1a := x1a.b q6
   replace x1b := x1b.b q6
   replace x2a := x2a.b q6
   replace x4a := x4a.b q6
   replace x5a := x5a.b q6
   have x6a : Blk w6 w5.heap.size 28 #[.bool b5, .slice A5 n5 c5, .slice A'5 n'5 c'5, .bool x5] := (blkAt _ _ _ (by simp)).below hb6 (by simp)
   have bw6 := bw5.trans (q6.mono bw5.size)
   have lw6 := hb6.l1
   clear q6 bw5
   obtain ⟨cx1aa, cx1ab, cx1ac⟩ := x1a.c3
   obtain ⟨lx1aa, lx1ab, lx1ac, lx1ad⟩ := lts0 x1a.lt
   obtain ⟨cx1ba, cx1bb, cx1bc⟩ := x1b.c3
   obtain ⟨lx1ba, lx1bb, lx1bc, lx1bd⟩ := lts1 x1b.lt
   go_wp2_with fail
   (with_reducible refine (u_Tow_o _ b A n c D m e (rx.q) (6) ?_ b' A' n' c' D' m' e' (ry.q) (6) ?_ X2 HX2.out T2 HT2.out ?_ ?_ ?_ ?_).mono ?_); (exact (hQx.belw ((Below.refl _ _).alloc (Nat.le_refl _) _))); (exact (hQy.belw ((Below.refl _ _).alloc (Nat.le_refl _) _))); (iterate 4 omega); rintro e w7 ⟨b7, A7, n7, c7, A'7, n'7, c'7, x7, rfl, h7, hb7⟩
   clear cx1aa cx1ab cx1ac lx1aa lx1ab lx1ac lx1ad cx1ba cx1bb cx1bc lx1ba lx1bb lx1bc lx1bd
   have q7 := hb7.q1
   replace hQx := hQx.belw q7
   replace hQy := hQy.belw q7
   replace h3 := h3.belw q7
   replace h4 := h4.belw q7
   replace h5 := h5.belw q7
   replace h6 := h6.belw q7
   replace x1a := x1a.b q7
   replace x1b := x1b.b q7
   replace x2a := x2a.b q7
   replace x4a := x4a.b q7
   replace x5a := x5a.b q7
   replace x6a := x6a.b q7
   have x7a : Blk w7 w6.heap.size 28 #[.bool b6, .slice A6 n6 c6, .slice A'6 n'6 c'6, .bool x6] := (blkAt _ _ _ (by simp)).below hb7 (by simp)
   have bw7 := bw6.trans (q7.mono bw6.size)
   have lw7 := hb7.l1
   clear q7 bw6
   go_wp2_with fail
   (with_reducible refine (u_Parse_o _ (s) X3 T3 HP.out).mono ?_); rintro e w8 ⟨b8, A8, n8, c8, A'8, n'8, c'8, x8, rfl, h8, hb8⟩
   have q8 := hb8.q1
   replace hQx := hQx.belw q8
   replace hQy := hQy.belw q8
   replace h3 := h3.belw q8
   replace h4 := h4.belw q8
   replace h5 := h5.belw q8
   replace h6 := h6.belw q8
   replace h7 := h7.belw q8
   replace x1a := x1a.b q8
   replace x1b := x1b.b q8
   replace x2a := x2a.b q8
   replace x4a := x4a.b q8
   replace x5a := x5a.b q8
   replace x6a := x6a.b q8
   replace x7a := x7a.b q8
   have x8a : Blk w8 w7.heap.size 28 #[.bool b7, .slice A7 n7 c7, .slice A'7 n'7 c'7, .bool x7] := (blkAt _ _ _ (by simp)).below hb8 (by simp)
   have bw8 := bw7.trans (q8.mono bw7.size)
   have lw8 := hb8.l1
   clear q8 bw7
   go_wp2_with fail
   (with_reducible refine (b_num_v _ X1).mono ?_); rintro e w9 ⟨rfl, hb9⟩
   have q9 := hb9.q1
   replace hQx := hQx.belw q9
   replace hQy := hQy.belw q9
   replace h3 := h3.belw q9
   replace h4 := h4.belw q9
   replace h5 := h5.belw q9
   replace h6 := h6.belw q9
   replace h7 := h7.belw q9
   replace h8 := h8.belw q9
   replace x1a := x1a.b q9
   replace x1b := x1b.b q9
   replace x2a := x2a.b q9
   replace x4a := x4a.b q9
   replace x5a := x5a.b q9
   replace x6a := x6a.b q9
   replace x7a := x7a.b q9
   replace x8a := x8a.b q9
   have x9a : Blk w9 w8.heap.size 28 #[.bool b8, .slice A8 n8 c8, .slice A'8 n'8 c'8, .bool x8] := (blkAt _ _ _ (by simp)).below hb9 (by simp)
   have bw9 := bw8.trans (q9.mono bw8.size)
   have lw9 := hb9.l1
   clear q9 bw8
   go_wp2_with fail
   (with_reducible refine (b_num_v _ X2).mono ?_); rintro e w10 ⟨rfl, q10⟩
   replace hQx := hQx.belw q10
   replace hQy := hQy.belw q10
   replace h3 := h3.belw q10
   replace h4 := h4.belw q10
   replace h5 := h5.belw q10
   replace h6 := h6.belw q10
   replace h7 := h7.belw q10
   replace h8 := h8.belw q10
   replace x1a := x1a.b q10
   replace x1b := x1b.b q10
   replace x2a := x2a.b q10
   replace x4a := x4a.b q10
   replace x5a := x5a.b q10
   replace x6a := x6a.b q10
   replace x7a := x7a.b q10
   replace x8a := x8a.b q10
   replace x9a := x9a.b q10
   have bw10 := bw9.trans (q10.mono bw9.size)
   have lw10 := q10.size
   clear q10 bw9
   go_wp2_with fail
   (with_reducible refine (b_num_v _ X3).mono ?_); rintro e w11 ⟨rfl, q11⟩
   replace hQx := hQx.belw q11
   replace hQy := hQy.belw q11
   replace h3 := h3.belw q11
   replace h4 := h4.belw q11
   replace h5 := h5.belw q11
   replace h6 := h6.belw q11
   replace h7 := h7.belw q11
   replace h8 := h8.belw q11
   replace x1a := x1a.b q11
   replace x1b := x1b.b q11
   replace x2a := x2a.b q11
   replace x4a := x4a.b q11
   replace x5a := x5a.b q11
   replace x6a := x6a.b q11
   replace x7a := x7a.b q11
   replace x8a := x8a.b q11
   replace x9a := x9a.b q11
   have bw11 := bw10.trans (q11.mono bw10.size)
   have lw11 := q11.size
   clear q11 bw10
   have cx4a := x4a.c4
   have lx4a := lts0 x4a.lt
   have cx7a := x7a.c4
   have lx7a := lts0 x7a.lt
   go_wp2_with fail
   (with_reducible refine (g_same_e _ b3 A3 n3 c3 A'3 n'3 c'3 x3 (T1) (10 * (6) + 10 * (6) + 20) ?_ b6 A6 n6 c6 A'6 n'6 c'6 x6 (T1) (10 * (6) + 10 * (6) + 20) ?_ true ?_ ?_ ?_ ?_ ?_).mono ?_); (exact h3.tk); (exact h6.tk); (exact ⟨fun _ => rfl, fun _ => rfl⟩); (iterate 4 omega); rintro e w12 ⟨rfl, q12⟩
   clear cx4a lx4a cx7a lx7a
   replace hQx := hQx.belw q12
   replace hQy := hQy.belw q12
   replace h3 := h3.belw q12
   replace h4 := h4.belw q12
   replace h5 := h5.belw q12
   replace h6 := h6.belw q12
   replace h7 := h7.belw q12
   replace h8 := h8.belw q12
   replace x1a := x1a.b q12
   replace x1b := x1b.b q12
   replace x2a := x2a.b q12
   replace x4a := x4a.b q12
   replace x5a := x5a.b q12
   replace x6a := x6a.b q12
   replace x7a := x7a.b q12
   replace x8a := x8a.b q12
   replace x9a := x9a.b q12
   have bw12 := bw11.trans (q12.mono bw11.size)
   have lw12 := q12.size
   clear q12 bw11
   have cx5a := x5a.c4
   have lx5a := lts0 x5a.lt
   have cx8a := x8a.c4
   have lx8a := lts0 x8a.lt
   go_wp2_with fail
   (with_reducible refine (g_same_e _ b4 A4 n4 c4 A'4 n'4 c'4 x4 (T2) (10 * (6) + 10 * (6) + 20) ?_ b7 A7 n7 c7 A'7 n'7 c'7 x7 (T2) (10 * (6) + 10 * (6) + 20) ?_ true ?_ ?_ ?_ ?_ ?_).mono ?_); (exact h4.tk); (exact h7.tk); (exact ⟨fun _ => rfl, fun _ => rfl⟩); (iterate 4 omega); rintro e w13 ⟨rfl, q13⟩
   clear cx5a lx5a cx8a lx8a
   replace hQx := hQx.belw q13
   replace hQy := hQy.belw q13
   replace h3 := h3.belw q13
   replace h4 := h4.belw q13
   replace h5 := h5.belw q13
   replace h6 := h6.belw q13
   replace h7 := h7.belw q13
   replace h8 := h8.belw q13
   replace x1a := x1a.b q13
   replace x1b := x1b.b q13
   replace x2a := x2a.b q13
   replace x4a := x4a.b q13
   replace x5a := x5a.b q13
   replace x6a := x6a.b q13
   replace x7a := x7a.b q13
   replace x8a := x8a.b q13
   replace x9a := x9a.b q13
   have bw13 := bw12.trans (q13.mono bw12.size)
   have lw13 := q13.size
   clear q13 bw12
   have cx6a := x6a.c4
   have lx6a := lts0 x6a.lt
   have cx9a := x9a.c4
   have lx9a := lts0 x9a.lt
   go_wp2_with fail
   (with_reducible refine (g_same_e _ b5 A5 n5 c5 A'5 n'5 c'5 x5 (T3) (65536) ?_ b8 A8 n8 c8 A'8 n'8 c'8 x8 (T3) (65536) ?_ true ?_ ?_ ?_ ?_ ?_).mono ?_); (exact h5.tk); (exact h8.tk); (exact ⟨fun _ => rfl, fun _ => rfl⟩); (iterate 4 omega); rintro e w14 ⟨rfl, q14⟩
   clear cx6a lx6a cx9a lx9a
   replace hQx := hQx.belw q14
   replace hQy := hQy.belw q14
   replace h3 := h3.belw q14
   replace h4 := h4.belw q14
   replace h5 := h5.belw q14
   replace h6 := h6.belw q14
   replace h7 := h7.belw q14
   replace h8 := h8.belw q14
   replace x1a := x1a.b q14
   replace x1b := x1b.b q14
   replace x2a := x2a.b q14
   replace x4a := x4a.b q14
   replace x5a := x5a.b q14
   replace x6a := x6a.b q14
   replace x7a := x7a.b q14
   replace x8a := x8a.b q14
   replace x9a := x9a.b q14
   have bw14 := bw13.trans (q14.mono bw13.size)
   have lw14 := q14.size
   clear q14 bw13
   go_wp2_with fail
   go_ret
   exact retB rfl bw14
end Go.Proofs.YtianjkiakkclgaaGreatDoor
namespace Go.Proofs.YtianjkiakkclgaaGreatDoor
open Go Go.RowKit Bn Go.ChangeShapes Go.WideShapes
attribute [local go_sem ↓] Go.wp_at_zero Go.wp_at_succ
theorem args_again {H : Type} {enc : TypeId × Value → H} {W : World} {P : Program} (hl : laidOutB P = true) {W' : World} (hb : Below W.heap.size W W') : ∀ {ts : List TypeId} {vs : List Value} {ds : List (DataW H)} {ps : List MemPlace}, (ts.all fun t => P.readableRec t && decide (t < P.types.size)) = true →
    DataW.TrodAll enc P W 0 (fun _ => true) true ts vs ds ps → DataW.TrodAll enc P W' 0 (fun b => decide (b < W.heap.size)) true ts vs ds ps
  | [], [], [], _, _, h => h
  | _ :: _, _ :: _, _ :: _, _, hr, h => by
    have hlt := h.lt
    obtain ⟨p, q, h1, h2, e⟩ := h
    rw [List.all_cons, Bool.and_eq_true, Bool.and_eq_true, decide_eq_true_eq] at hr
    exact ⟨p, q, Below.trod hl hr.1.1 hr.1.2 h1 hb (fun x hx => hlt x (by rw [e]; exact List.mem_append_left _ hx)), args_again hl hb hr.2 h2, e⟩
  | [], [], _ :: _, _, _, h => h.elim
  | [], _ :: _, _, _, _, h => h.elim
  | _ :: _, [], _, _, _, h => h.elim
  | _ :: _, _ :: _, [], _, _, h => h.elim
theorem law_post {H : Type} {enc : TypeId × Value → H} {W : World} {P : Program} {B : TypeId} {f : Func} {s : ChangeSpec} {W' : World} {args : Array Value} {ds : List (DataW H)} {before : List MemPlace} (hl : laidOutB P = true) (hB : P.underlying B = some .bool)
  (hW : DataW.Whole enc P f.params.toList s.vars false W args.toList ds [] before) (hv : s.vars = []) (hr : f.resultTypes = #[B]) (hp : (f.params.toList.all fun t => P.readableRec t && decide (t < P.types.size)) = true)
  (hres : (s.fn H (ds ++ [])).results = [.lit (.bool true)]) (hargs : (s.fn H (ds ++ [])).args = ds) (hvars : (s.fn H (ds ++ [])).vars = []) (hb : Below W.heap.size W W') :
  s.post enc P f false true false false W args (.bool true) W' := by
 have hW' := hW
 obtain ⟨p, q, hA, hV, rfl, _, _⟩ := hW
 have hV' := hV
 rw [hv] at hV'
 obtain ⟨_, rfl⟩ := trodVars_none hV'
 refine ⟨ds, [], _, [], p, [], hW', ?_, ?_, ?_, hb.frame _, fun h => by cases h⟩
 ·rw [hr, hres]
  exact trodAll_mk1 (shut_bool hB _)
 ·rw [hargs]
  exact args_again hl hb hp hA
 ·rw [hv, hvars]
  rfl
def bareB (p : Program) (fits : TypeId → Bool) : Nat → TypeId → Bool
  | 0, _ => true
  | d + 1, e => !fits e && match p.underlying e with
    | some (.struct fs) => fs.all fun f => bareB p fits d f.type
    | some (.array _ e') => bareB p fits d e'
    | _ => true
theorem rowAt_bare {p : Program} {fits : TypeId → Bool} : ∀ (d : Nat) (e : TypeId) (count off n : Nat), bareB p fits d e = true → rowAt p fits d e count off n = false := by
 intro d
 induction d with
 | zero => intro e count off n _; rfl
 | succ d ih =>
  intro e count off n h
  unfold bareB at h
  rw [Bool.and_eq_true] at h
  obtain ⟨h1, h2⟩ := h
  have h1 : fits e = false := by simpa using h1
  unfold rowAt
  dsimp only
  split
  ·rfl
  ·rw [h1, Bool.and_false, Bool.false_or]
   split at h2
   ·rename_i fs hu
    rw [hu]
    dsimp only
    have : (fs.any fun f => decide (f.offset ≤ off % p.cellsOf e) && decide (off % p.cellsOf e < f.offset + p.cellsOf f.type) && rowAt p fits d f.type 1 (off % p.cellsOf e - f.offset) n) = false := by
     rw [Array.any_eq_false]
     intro i hi
     have := Array.all_eq_true.1 h2 i hi
     rw [ih _ _ _ _ this]; simp
    rw [this]; simp
   ·rename_i m e' hu
    rw [hu]
    dsimp only
    rw [ih _ _ _ _ h2]; simp
   ·rename_i hn1 hn2
    split
    ·rename_i fs hu; exact absurd hu (hn1 _)
    ·rename_i m e' hu; exact absurd hu (hn2 _ _)
    ·simp
theorem lies_u32 {e : TypeId} {count off n : Nat} (h : bareB Tryz.prog (sameLayout Tryz.prog Tryz.prog.depth · 100) Tryz.prog.depth e = true) : liesAt Tryz.prog Tryz.prog.depth e count off 100 n = false := by
 have : ∀ d, liesAt Tryz.prog d e count off 100 n = false := by
  intro d
  cases d with
  | zero => rfl
  | succ d =>
   unfold liesAt
   rw [rowAt_bare _ _ _ _ _ h, Tryz.underlying100]
   rfl
 exact this _
theorem bare_rat : bareB Tryz.prog (sameLayout Tryz.prog Tryz.prog.depth · 100) Tryz.prog.depth 24 = true := by kernel_rfl
theorem bare_turn : bareB Tryz.prog (sameLayout Tryz.prog Tryz.prog.depth · 100) Tryz.prog.depth 28 = true := by kernel_rfl
theorem bare_place : bareB Tryz.prog (sameLayout Tryz.prog Tryz.prog.depth · 100) Tryz.prog.depth 35 = true := by kernel_rfl
theorem bare_whole : bareB Tryz.prog (sameLayout Tryz.prog Tryz.prog.depth · 100) Tryz.prog.depth 77 = true := by kernel_rfl
theorem joined_parts {P : Program} {f : FuncId} {fn : Func} {s : ChangeSpec} {c : OpenClaim}
  (h1 : (c.wf (OpenSpec.ofChange s) && laidOutB P && mapsRowed P && fn.params.all (P.readableRec ·) && namedTie P c.named s.vars && (c.stops == []) && (P.stops == []) && (c.knobs == []) && (P.stopKnobs == [])) = true)
  (h2 : (c.inPlace == P.inPlace f) = true) (h3 : (c.unfollowed == P.unfollowed f) = true) (h4 : (c.recurses == P.recurses f) = true) (h5 : (c.named == P.varsNamed f) = true)
  (h6 : ((c.maps == (fn.params.toList ++ s.plain.varTypes P).any (P.mapsRec ·)) && (c.ifaces == (fn.params.toList ++ s.plain.varTypes P).any (P.ifacesRec ·)) && (c.mapsOut == P.mapsAmong fn.resultTypes.toList) &&
   (c.loops == (fn.params.toList ++ s.plain.varTypes P).any (P.loopsFrom ·)) && (c.wideKeys == (fn.params.toList ++ s.plain.varTypes P ++ fn.resultTypes.toList).any (P.wideKeysFrom ·)) &&
   s.vars.all (P.varReadable ·) && fn.resultTypes.all (fun t => P.readableRec t && decide (t < P.types.size)) && (c.ifacesOut == fn.resultTypes.toList.any (P.ifacesRec ·)) && (c.loopsOut == fn.resultTypes.toList.any (P.loopsFrom ·)) && (c.plainKeys == P.plainKeys) && c.shortTexts.isNone && P.stopsHeard && P.mayEnter && (c.lifted == P.liftsFinal) && (P.make == some c.make) && (c.kinds == (if c.domain.isEmpty then [] else fn.params.toList.map fun t => match P.underlying t with | some (.int k) => some k | _ => none)) && (c.pinned == c.pinnedBy) &&
   (c.veiled == (fn.params.toList ++ s.plain.varTypes P ++ fn.resultTypes.toList).any (P.veiledRec ·)) && c.veiledFits P fn.params.toList (fn.params.toList ++ s.plain.varTypes P ++ fn.resultTypes.toList)) = true) : joinedFacts P f fn s c = true := by
 unfold joinedFacts
 simp only [Bool.and_eq_true] at h1 h6 ⊢
 obtain ⟨⟨⟨⟨⟨⟨⟨⟨a0, a1⟩, a2⟩, a3⟩, a4⟩, a5⟩, a6⟩, a7⟩, a8⟩ := h1
 obtain ⟨⟨⟨⟨⟨⟨⟨⟨⟨⟨⟨⟨⟨⟨⟨⟨⟨⟨b0, b1⟩, b2⟩, b3⟩, b4⟩, b5⟩, b6⟩, b7⟩, b8⟩, b9⟩, b10⟩, b11⟩, b12⟩, b13⟩, b14⟩, b15⟩, b16⟩, b17⟩, b18⟩ := h6
 exact ⟨⟨⟨⟨⟨⟨⟨⟨⟨⟨⟨⟨⟨⟨⟨⟨⟨⟨⟨⟨⟨⟨⟨⟨⟨⟨⟨⟨⟨⟨⟨a0, a1⟩, a2⟩, a3⟩, a4⟩, a5⟩, a6⟩, a7⟩, a8⟩, h2⟩, h3⟩, h4⟩, h5⟩, b0⟩, b1⟩, b2⟩, b3⟩, b4⟩, b5⟩, b6⟩, b7⟩, b8⟩, b9⟩, b10⟩, b11⟩, b12⟩, b13⟩, b14⟩, b15⟩, b16⟩, b17⟩, b18⟩
theorem kt_of_lies {e : TypeId} {count off n : Nat} (h : liesAt Tryz.prog Tryz.prog.depth e count off 100 n = true) : KT e = true := by
  unfold KT
  by_cases h1 : e = 77
  · subst h1; rw [lies_u32 bare_whole] at h; cases h
  by_cases h2 : e = 24
  · subst h2; rw [lies_u32 bare_rat] at h; cases h
  by_cases h3 : e = 28
  · subst h3; rw [lies_u32 bare_turn] at h; cases h
  by_cases h4 : e = 35
  · subst h4; rw [lies_u32 bare_place] at h; cases h
  simp [h1
   , h2
   , h3
   , h4
    ]
section
variable {H : Type} {enc : TypeId × Value → H} {W : World} {base : Nat}
theorem words_open {v : Value} {fuel : Nat} {x : DataW H × List MemPlace} (hok : Cell.okWide Tryz.prog W .any base 22 v) (ht : DataW.trod enc Tryz.prog W 0 (fun _ => true) true fuel 22 [v] = some x) :
    ∃ A n c l, v = .slice A n c ∧ Wd W A n c l := by
  rcases open_ints Tryz.underlying22 Tryz.underlying100 (by kernel_rfl) ht with ⟨hv, _⟩ | ⟨a, len, cap, zs, hv, _, hl, _, hz, _, hc, hwf⟩
  · injection hv with hv _
    exact ⟨none, 0, 0, [], hv, Wd.nil_ W⟩
  · injection hv with hv _
    subst hv
    have hz : zs.length = cap := by simpa using hz
    have h0 : ∀ i, i < zs.length → 0 ≤ zs.getD i 0 ∧ zs.getD i 0 ≤ 4294967295 := by
      intro i hi
      have h1 := hwf (zs.getD i 0) (by rw [List.getD_eq_getElem?_getD, List.getElem?_eq_getElem hi]; simp)
      simpa [Lit.wf, IntKind.min, IntKind.max, IntKind.signed, IntKind.bits] using h1
    refine ⟨some a, len, cap, (zs.take len).map Int.toNat, rfl, ?_, ?_, hl, fun hn => ?_⟩
    · intro y hy
      obtain ⟨z, hz1, rfl⟩ := List.mem_map.1 hy
      obtain ⟨i, hi, he⟩ := List.getElem_of_mem hz1
      have hi2 : i < zs.length := by rw [List.length_take] at hi; omega
      have h1 := h0 i hi2
      rw [List.getD_eq_getElem?_getD, List.getElem?_eq_getElem hi2] at h1
      rw [List.getElem_take] at he
      simp only [Option.getD_some] at h1
      rw [he] at h1
      omega
    · rw [List.length_map, List.length_take]; omega
    · unfold Cell.okWide at hok
      rw [Tryz.underlying22] at hok
      unfold Cell.ok at hok
      rw [Tryz.underlying22] at hok
      obtain ⟨_, _, _, hs, row, cells, hsh, hli⟩ := hok
      unfold World.shape? at hsh
      split at hsh
      · rename_i cur el fr hb
        injection hsh with hsh; injection hsh with e1 e2
        subst e1
        obtain ⟨g, o, sp⟩ := a
        dsimp only at hs
        subst hs
        have hr : RowW W g cur fr := ⟨el, kt_of_lies hli, hb⟩
        refine ⟨g, o, cur, fr, rfl, hr, fun i hi => ?_⟩
        have h1 := hc i (by omega)
        have h2 := h0 i (by omega)
        have e3 : (⟨g, o, none⟩ : Addr).add i = ⟨g, o + i, none⟩ := by unfold Addr.add; by_cases hi0 : i = 0 <;> simp [hi0]
        rw [e3, hr.cell] at h1
        rw [h1]
        have e4 : wd ((zs.take len).map Int.toNat) i = (zs.getD i 0).toNat := by
          unfold wd
          rw [List.getD_eq_getElem?_getD, List.getElem?_map, List.getElem?_take, if_pos hi, List.getD_eq_getElem?_getD]
          rcases zs[i]? with _ | z <;> rfl
        rw [e4, Int.toNat_of_nonneg h2.1]
      · cases hsh
theorem rat_open {v0 v1 v2 : Value} {fuel : Nat} {x : DataW H × List MemPlace} (o1 : Cell.okWide Tryz.prog W .any base 22 v1) (o2 : Cell.okWide Tryz.prog W .any base 22 v2)
  (ht : DataW.trod enc Tryz.prog W 0 (fun _ => true) true fuel 24 [v0, v1, v2] = some x) :
  ∃ b A n c D m e r k, v0 = .bool b ∧ v1 = .slice A n c ∧ v2 = .slice D m e ∧ QD W b A n c D m e r k := by
 obtain ⟨xs, n, _, _, _, hxl, hf⟩ := DataW.trod_struct Tryz.underlying24 ht
 have f0 : DataW.trod enc Tryz.prog W 0 (fun _ => true) true n 4 (List.take (Tryz.prog.cellsOf 4) [v0, v1, v2]) = xs[0]? := hf 0 _ rfl
 have f1 : DataW.trod enc Tryz.prog W 0 (fun _ => true) true n 22 (List.take (Tryz.prog.cellsOf 22) [v1, v2]) = xs[1]? := hf 1 _ rfl
 have f2 : DataW.trod enc Tryz.prog W 0 (fun _ => true) true n 22 (List.take (Tryz.prog.cellsOf 22) [v2]) = xs[2]? := hf 2 _ rfl
 have c1 : Tryz.prog.cellsOf 22 = 1 := by kernel_rfl
 have c0 : Tryz.prog.cellsOf 4 = 1 := by kernel_rfl
 try dsimp only at f0 f1 f2
 rw [c0] at f0
 rw [c1] at f1 f2
 have hx0 : xs.length = 3 := hxl
 rw [List.getElem?_eq_getElem (show 0 < xs.length by omega)] at f0
 rw [List.getElem?_eq_getElem (show 1 < xs.length by omega)] at f1
 rw [List.getElem?_eq_getElem (show 2 < xs.length by omega)] at f2
 obtain ⟨b, hb, _⟩ := DataW.trod_bool Tryz.underlying4 f0
 obtain ⟨A, n1, cc, l, rfl, h1⟩ := words_open o1 f1
 obtain ⟨D, m, e, l', rfl, h2⟩ := words_open o2 f2
 injection hb with hb _
 exact ⟨b, A, n1, cc, D, m, e, ⟨b, l, l'⟩, max n1 m, hb, rfl, rfl, rfl, h1, h2, Nat.le_max_left _ _, Nat.le_max_right _ _⟩
theorem cells_ok {t : TypeId} {fs : Array Field} {ts : List TypeId} {v : Value} (hu : Tryz.prog.underlying t = some (.struct fs)) (hts : Tryz.prog.cellTypes Tryz.prog.depth t = some ts) (hn : Tryz.prog.cellsOf t = ts.length) (h : Value.okWide Tryz.prog W .any base t v) :
  ∃ cs : Array Value, v = .agg cs ∧ cs.size = ts.length ∧ ∀ (i : Nat) (v : Value) (u : TypeId), cs[i]? = some v → ts[i]? = some u → Cell.okWide Tryz.prog W .any base u v := by
 unfold Value.okWide at h
 rw [hu] at h
 obtain ⟨cs, rfl, hsz, ts', hts', _, hc⟩ := h
 rw [hts] at hts'
 injection hts' with e
 subst e
 rw [hn] at hsz
 refine ⟨cs, rfl, hsz, fun i v u hi hu => ?_⟩
 obtain ⟨u', h1, h2⟩ := hc i v hi
 have hlt : i < ts.length := by rw [← hsz]; exact (Array.getElem?_eq_some_iff.1 hi).1
 rw [Nat.mod_eq_of_lt hlt, hu] at h1
 injection h1 with h1
 subst h1
 exact h2
theorem frac_open {v : Value} {d : DataW H} {p : List MemPlace} (hok : Value.okWide Tryz.prog W .any base 24 v) (h : DataW.Trod enc Tryz.prog W 0 (fun _ => true) true 24 v d p) :
    ∃ b A n c D m e r k, v = .agg #[.bool b, .slice A n c, .slice D m e] ∧ QD W b A n c D m e r k := by
  obtain ⟨cs, rfl, hsz, hc⟩ := cells_ok (ts := [4, 22, 22]) Tryz.underlying24 (by kernel_rfl) (by kernel_rfl) hok
  obtain ⟨fuel, h⟩ := h
  obtain ⟨l⟩ := cs
  match l, hsz with
  | [v0, v1, v2], _ =>
    obtain ⟨b, A, n, c, D, m, e, r, k, rfl, rfl, rfl, hq⟩ := rat_open (hc 1 v1 _ rfl rfl) (hc 2 v2 _ rfl rfl) h
    exact ⟨b, A, n, c, D, m, e, r, k, rfl, hq⟩
end
theorem mx_of_shaped {W : World} (h : W.ShapedOpen Tryz.prog) : ∃ m, W.cell? ⟨0, 0, none⟩ = some (.int .i64 m) :=
 Go.Proofs.cell_of_shapedOpen_int (P := Tryz.prog) (g := 0) (t := 3) (zero := #[.int .i64 0]) h (of_decide_eq_true (by kernel_rfl)) (by kernel_rfl) rfl (by kernel_rfl) (by kernel_rfl) Tryz.underlying3
theorem g_pow : Tryz.prog.globalNamed "internal/strconv.uint64pow10" = some 5 := by kernel_rfl
theorem ty_pow : (Tryz.prog.globals[5]?).map (·.type) = some 197 := by kernel_rfl
theorem cells_pow : Tryz.prog.cellsOf 197 = 20 := by kernel_rfl
theorem cells_u64 : Tryz.prog.cellsOf 109 = 1 := by kernel_rfl
theorem pow_data {H : Type} : (Rows.laid_internal_strconv_uint64pow10 : DataW H) = Lib.tabData .u64 Lib.pow10Tab := by kernel_rfl
theorem tab_of_laid {rest : List (String × DataW Unit)} {W : World} (h : laidMet Tryz.prog (("math/bits.deBruijn32tab", Rows.laid_math_bits_deBruijn32tab) :: ("math/bits.deBruijn64tab", Rows.laid_math_bits_deBruijn64tab) :: ("internal/strconv.uint64pow10", Rows.laid_internal_strconv_uint64pow10) :: rest) W) : Tab W := by
 obtain ⟨ps, ⟨_, _, _, _, _, _, _, _, _, _, ⟨_, _, _, _, _, _, _, _, _, _, ⟨g, t, cs, f, p, q, hg, ht, hv, hd, _, _⟩, _⟩, _⟩, _, _⟩ := h
 obtain rfl := Option.some.inj (g_pow.symm.trans hg)
 obtain rfl := Option.some.inj (ty_pow.symm.trans ht)
 rw [pow_data] at hd
 unfold Tab Lib.TabIs
 rw [hv, ← Lib.cells_of_tab Tryz.underlying197 Tryz.underlying109 cells_u64 cells_pow hd]
noncomputable def low : Nat := (World.holding Tryz.prog default ⟨#[], #[], []⟩).heap.size
noncomputable def laidWorld (os : Os) : World :=
  let w0 := World.holding Tryz.prog os ⟨#[.cells #[.string ⟨#[118, 97, 108, 117, 101, 32, 111, 117, 116, 32, 111, 102, 32, 114, 97, 110, 103, 101]⟩] 195, .cells #[.string ⟨#[105, 110, 118, 97, 108, 105, 100, 32, 115, 121, 110, 116, 97, 120]⟩] 195], #[], []⟩
  { w0 with heap := (((((((w0.heap.modify 5 fun
      | .cells _ t frozen => .cells (#[.int .u64 1, .int .u64 10, .int .u64 100, .int .u64 1000, .int .u64 10000, .int .u64 100000, .int .u64 1000000, .int .u64 10000000, .int .u64 100000000, .int .u64 1000000000, .int .u64 10000000000, .int .u64 100000000000, .int .u64 1000000000000, .int .u64 10000000000000, .int .u64 100000000000000, .int .u64 1000000000000000, .int .u64 10000000000000000, .int .u64 100000000000000000, .int .u64 1000000000000000000, .int .u64 10000000000000000000]) t frozen
      | o => o).modify 6 fun
      | .cells _ t frozen => .cells (#[.int .u8 0, .int .u8 1, .int .u8 28, .int .u8 2, .int .u8 29, .int .u8 14, .int .u8 24, .int .u8 3, .int .u8 30, .int .u8 22, .int .u8 20, .int .u8 15, .int .u8 25, .int .u8 17, .int .u8 4, .int .u8 8, .int .u8 31, .int .u8 27, .int .u8 13, .int .u8 23, .int .u8 21, .int .u8 19, .int .u8 16, .int .u8 7, .int .u8 26, .int .u8 12, .int .u8 18, .int .u8 6, .int .u8 11, .int .u8 5, .int .u8 10, .int .u8 9]) t frozen
      | o => o).modify 7 fun
      | .cells _ t frozen => .cells (#[.int .u8 0, .int .u8 1, .int .u8 56, .int .u8 2, .int .u8 57, .int .u8 49, .int .u8 28, .int .u8 3, .int .u8 61, .int .u8 58, .int .u8 42, .int .u8 50, .int .u8 38, .int .u8 29, .int .u8 17, .int .u8 4, .int .u8 62, .int .u8 47, .int .u8 59, .int .u8 36, .int .u8 45, .int .u8 43, .int .u8 51, .int .u8 22, .int .u8 53, .int .u8 39, .int .u8 33, .int .u8 30, .int .u8 24, .int .u8 18, .int .u8 12, .int .u8 5, .int .u8 63, .int .u8 55, .int .u8 48, .int .u8 27, .int .u8 60, .int .u8 41, .int .u8 37, .int .u8 16, .int .u8 46, .int .u8 35, .int .u8 44, .int .u8 21, .int .u8 52, .int .u8 32, .int .u8 23, .int .u8 11, .int .u8 54, .int .u8 26, .int .u8 40, .int .u8 15, .int .u8 34, .int .u8 20, .int .u8 31, .int .u8 10, .int .u8 25, .int .u8 14, .int .u8 19, .int .u8 9, .int .u8 13, .int .u8 8, .int .u8 7, .int .u8 6]) t frozen
      | o => o).modify 4 fun
      | .cells _ t frozen => .cells (#[.int .u8 128, .int .u8 191, .int .u8 160, .int .u8 191, .int .u8 128, .int .u8 159, .int .u8 144, .int .u8 191, .int .u8 128, .int .u8 143, .int .u8 0, .int .u8 0, .int .u8 0, .int .u8 0, .int .u8 0, .int .u8 0, .int .u8 0, .int .u8 0, .int .u8 0, .int .u8 0, .int .u8 0, .int .u8 0, .int .u8 0, .int .u8 0, .int .u8 0, .int .u8 0, .int .u8 0, .int .u8 0, .int .u8 0, .int .u8 0, .int .u8 0, .int .u8 0]) t frozen
      | o => o).modify 3 fun
      | .cells _ t frozen => .cells ((Go.Pinned.utf8FirstZ.map fun z : Nat => Value.int .u8 (z : Int)).toArray) t frozen
      | o => o).modify 2 fun
      | .cells _ t frozen => .cells (#[.iface 193 (.pointer (some ⟨low, 0, none⟩))]) t frozen
      | o => o).modify 1 fun
      | .cells _ t frozen => .cells (#[.iface 193 (.pointer (some ⟨low + 1, 0, none⟩))]) t frozen
      | o => o) }
theorem own_knob : ownKnob Tryz.prog.godebug = none := by kernel_rfl
theorem laid_out : laidOutB Tryz.prog = true := by kernel_rfl
end Go.Proofs.YtianjkiakkclgaaGreatDoor
namespace Go.Proofs.YtianjkiakkclgaaGreatDoor
open Go Go.RowKit Bn Go.ChangeShapes Go.WideShapes Go.ChangeAt
attribute [local go_sem ↓] Go.wp_at_zero Go.wp_at_succ
theorem makes_contract (H : Type) (enc : TypeId × Value → H) (W : World) (base : Nat) (args : Array Value) (ds gs : List (DataW H)) (before : List MemPlace)
  (hval0 : ∀ (j : Nat) t v, Tryz.f3.params[j]? = some t → args[j]? = some v → Value.okWide Tryz.prog W .any base t v)
  (hW : DataW.Whole enc Tryz.prog Tryz.f3.params.toList Rows.turnMakesSpec.vars false W args.toList ds gs before) (hL : laidMetH Tryz.prog Rows.turnMakesRow.laid W) (hsh : W.ShapedOpen Tryz.prog) :
  Calls Tryz.prog 3 args W fun e W' => ∃ v, e = .returned v ∧ Rows.turnMakesSpec.post enc Tryz.prog Tryz.f3 false true false false W args v W' := by
 have hval : ∀ (j : Nat) t v, Tryz.f3.params[j]? = some t → args[j]? = some v → Value.okWide Tryz.prog W .any base t v := hval0
 have htab : Tab W := tab_of_laid hL
 have hmx : Mx W := mx_of_shaped hsh
 have hW' := hW
 obtain ⟨p, q, hA0, hV, rfl, hfz, hnd⟩ := hW
 have hA : DataW.TrodAll enc Tryz.prog W 0 (fun _ => true) true Tryz.f3.params.toList args.toList ds p := hA0
 rw [Tryz.params3] at hA hval
 obtain ⟨v0, v1, v2, d0, d1, d2, p0, p1, p2, rfl, rfl, rfl, h0, h1, h2⟩ := trodAll_three hA
 obtain ⟨rfl, rfl⟩ := trodVars_none hV
 obtain ⟨b, A, n, c, D, m, e, r, k, rfl, H⟩ := frac_open (hval 0 _ v0 rfl rfl) h0
 obtain ⟨b', A', n', c', D', m', e', r', k', rfl, H'⟩ := frac_open (hval 1 _ v1 rfl rfl) h1
 obtain ⟨s, rfl, rfl, rfl, hs⟩ := Go.ChangeMaps.open_string Tryz.underlying9 (hval 2 _ v2 rfl rfl) h2
 obtain ⟨t, rfl⟩ : ∃ t : List UInt8, s = ⟨t.toArray⟩ := ⟨s.data.toList, by simp⟩
 have ht : t.length < 9223372036854775808 := by unfold maxLen at hs; have h9 : t.length ≤ _ := hs; omega
 refine (l_TurnMakes W b A n c D m e r k H b' A' n' c' D' m' e' r' k' H' t ht htab hmx).mono fun e W' ⟨he, hb⟩ => ?_
 subst he
 exact ⟨_, rfl, law_post laid_out Tryz.underlying4 hW' rfl rfl (by kernel_rfl) rfl rfl rfl hb⟩
theorem makes_lifted (os : Os) (started : os.Started) (H : Type) (enc : TypeId × Value → H) (F : Stop.Interp) :
    ReturnsInHanded {} Tryz.checked os 3 .any ((OpenSpec.ofChange Rows.turnMakesSpec).preRow enc Tryz.prog Tryz.f3 Rows.turnMakesRow.domain false Rows.turnMakesRow.laid) (((OpenSpec.ofChange Rows.turnMakesSpec).at F).post enc Tryz.prog Tryz.f3 false true false false) := by
  have hx : DataW.whole enc Tryz.prog ((laidWorld os).forCall (fun _ _ => 0) ⟨#[], #[.agg #[.bool false, .slice none 0 0, .slice none 0 0], .agg #[.bool false, .slice none 0 0, .slice none 0 0], .string ⟨#[]⟩], []⟩).memory Tryz.f3.params.toList Rows.turnMakesSpec.vars false (#[.agg #[.bool false, .slice none 0 0, .slice none 0 0], .agg #[.bool false, .slice none 0 0, .slice none 0 0], .string ⟨#[]⟩] : Array Value).toList 8 = some ([.agg [.lit (.bool false), .nil, .nil], .agg [.lit (.bool false), .nil, .nil], .lit (.string [])], [], []) := by kernel_rfl
  have hl : laidMet Tryz.prog Rows.turnMakesRow.laid ((laidWorld os).forCall (fun _ _ => 0) ⟨#[], #[.agg #[.bool false, .slice none 0 0, .slice none 0 0], .agg #[.bool false, .slice none 0 0, .slice none 0 0], .string ⟨#[]⟩], []⟩).memory := laidMet_of_run' 8 (by kernel_rfl) (by kernel_rfl)
  refine returnsInHanded_of_row (C := Tryz.checked) (s := OpenSpec.ofChange Rows.turnMakesSpec) own_knob started (by kernel_rfl) Tryz.func3
    (witness_row_at (enc := enc) (C := Tryz.checked) false (laidWorld os) #[.agg #[.bool false, .slice none 0 0, .slice none 0 0], .agg #[.bool false, .slice none 0 0, .slice none 0 0], .string ⟨#[]⟩] rfl (by kernel_rfl) (by kernel_rfl) (by kernel_rfl)
      (OpenSpec.preRow_of_cond 8 hx (by kernel_rfl) (fun k hk => by cases hk) (by kernel_rfl) hl)) ?_
  intro W base args ds gs before hval hW _ _ _ hL hsh _
  exact makes_contract H enc W base args ds gs before hval hW hL hsh
theorem makes_j2 : (Rows.turnMakesRow.inPlace == Tryz.pinned.checked.prog.inPlace 3) = true := by kernel_rfl
theorem makes_j3 : (Rows.turnMakesRow.unfollowed == Tryz.pinned.checked.prog.unfollowed 3) = true := by kernel_rfl
theorem makes_j4 : (Rows.turnMakesRow.recurses == Tryz.pinned.checked.prog.recurses 3) = true := by kernel_rfl
theorem makes_j5 : (Rows.turnMakesRow.named == Tryz.pinned.checked.prog.varsNamed 3) = true := by kernel_rfl
theorem makes_joined : joinedFacts Tryz.pinned.checked.prog 3 Tryz.f3 (OpenSpec.ofChange Rows.turnMakesSpec).bare Rows.turnMakesRow = true := joined_parts (by kernel_rfl) makes_j2 makes_j3 makes_j4 makes_j5 (by kernel_rfl)
theorem makes_inst : Tryz.f3.isInstance Tryz.pinned.checked.prog Rows.turnMakesRow.origin Rows.turnMakesRow.targs := of_decide_eq_true (by kernel_rfl)
theorem makes_said : Rows.TurnMakesSaid :=
 OpenClaim.holds_of_cond 3 Tryz.f3 rfl rfl rfl rfl rfl rfl rfl ⟨rfl, rfl, rfl, rfl, rfl⟩ rfl rfl rfl rfl rfl (by kernel_rfl) Tryz.func3 makes_joined
  makes_inst (by unfold Func.isWrapper; first | (rw [if_pos (by decide +kernel)]; kernel_rfl) | (rw [if_neg (by decide +kernel)]; exact ⟨rfl, rfl⟩))
  (fun os started H enc _ F => by rw [OpenClaim.pre_eq_preRow]; exact makes_lifted os started H enc F)
theorem makes_plain (f : FuncId) (fn : Func) (hf : Tryz.pinned.checked.prog.funcNamed "linkwork/linkworklaw12.TurnMakes" = some f) (hfn : Tryz.pinned.checked.prog.funcs[f]? = some fn) :
  true = Tryz.pinned.checked.prog.looks [] ∧ ∀ (j : Nat) t, fn.params[j]? = some t → Tryz.pinned.checked.prog.wantsStandIn t = false := by
 obtain rfl : f = 3 := Option.some.inj ((show Tryz.prog.funcNamed "linkwork/linkworklaw12.TurnMakes" = some 3 by kernel_rfl).symm.trans hf) |>.symm
 obtain rfl : fn = Tryz.f3 := (Option.some.inj (Tryz.func3.symm.trans hfn)).symm
 refine ⟨by kernel_rfl, fun j t ht => ?_⟩
 rw [Tryz.params3] at ht
 have hm : t ∈ [24, 9] := by
  have := Array.mem_of_getElem? ht
  simp at this ⊢
  first
   | exact this
   | exact .inl this
 have hall : ([24, 9].all fun u => !Tryz.prog.wantsStandIn u) = true := by kernel_rfl
 exact (show Tryz.prog.wantsStandIn t = false by simpa using List.all_eq_true.1 hall t hm)
theorem makes_holds : Rows.TurnMakesCardSaid :=
 Claim7.holds_tied_plain_at .later [] _ _ _ _ makes_said (fun _ h => by cases h) (by kernel_rfl) (fun _ h => by cases h) turnMakes_row_tie rfl ⟨rfl, rfl⟩ (by kernel_rfl) rfl makes_plain (by kernel_rfl)
end Go.Proofs.YtianjkiakkclgaaGreatDoor
