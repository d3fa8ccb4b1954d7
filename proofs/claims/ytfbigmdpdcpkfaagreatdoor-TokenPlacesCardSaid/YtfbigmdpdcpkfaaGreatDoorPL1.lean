/- TokenPlaces: every token stands in the text at its line and column, behind the one before it; for every input the law returns true. The listed library variables are tied to the program text. -/
import Derived.Below
import Derived.Laws.OwnMore
import Derived.Deep.Draws
import Derived.OneCell
import Derived.Laws.Rows
import Derived.Test.YtfbigmdpdcpkfaaGreatDoorProg
import Derived.WalkKit
import Derived.WalkSpells
import Derived.WalkLawsBesides
import Derived.BigQuiet
import Derived.Deep.QuietTactic
import Derived.Deep.AppendLies
import Derived.Lib.Hide
import Derived.Deep.RegionHeld3
import Derived.Deep.DrawnRows
import Derived.Shelf.Strings.Builder1
import Derived.Shelf.Strings.Builder2
import Derived.Shelf.Strings.OnBuilder
import Derived.Shelf.Strings.Trim
import Derived.Shelf.Small.Utf8
import Derived.Shelf.Small.Bits
import Derived.Shelf.Small.Strs
import Derived.Shelf.Small.Wraps
import Derived.Shelf.Strings.BuilderF
import Derived.Shelf.Strconv.Atoi
import Derived.Shelf.Strconv.Itoa0
import Derived.Shelf.Strconv.Itoa1
import Derived.Shelf.LaysM
import Derived.Shelf.Strconv.Itoa2
import Derived.Shelf.Strconv.Itoa3
import Derived.Shelf.Strings.Search1
import Derived.Shelf.Strings.Search2
import Derived.Shelf.Strings.Cut
import Derived.Shelf.Strings.Shaped
import Derived.Shelf.Strings.Prefix
import Derived.Shelf.Strings.Runes
import Derived.Shelf.Strings.AsciiSet
import Derived.Shelf.Bits.Mul64
import Derived.Shelf.Strings.Repeat
import Derived.Shelf.Unicode.DecodeSlow
import Derived.IntWalk
import Derived.Deep.DeepCutAuto
import Derived.Deep.RegionHeld
import Derived.Lib.ItoaNum
import Derived.Lib.ItoaMem
import Derived.Lib.Repeat
import Derived.Lib.Join
import Derived.Lib.Atoi
import Derived.Lib.SlTrimSet
import Derived.Lib.AppendIntMem
import Derived.Shelf.Strings.SlTrimAscii
import Derived.Lib.IndexMore
import Derived.Test.YtfbigmdpdcpkfaaGreatDoorCards
import Derived.Test.YtfbigmdpdcpkfaaGreatDoorTie
import Derived.ProofKit
import Derived.OpenShut
import Derived.Deep.DeepHandedRow
import Derived.Lib.LaidTab
import Derived.Shelf.Vars
import Derived.ChangeMaps5
import Derived.Test.YtfbigmdpdcpkfaaGreatDoorA3
set_option linter.unusedVariables false
set_option maxHeartbeats 8000000
set_option maxRecDepth 100000
/- Walks: TokenPlaces. -/
namespace Go.Proofs.YtfbigmdpdcpkfaaGreatDoor
open Go Go.RowKit Bn
attribute [local go_sem ↓] Go.wp_at_zero Go.wp_at_succ
theorem meets_0 {l : List Tkn} {line col k left : Nat} (h : meets l line col k left = false) : left ≠ 0 ∨ (left = 0 ∧ ((l.length ≤ k) ∨ ∃ t, l[k]? = some t ∧ (t.line ≠ line ∨ (t.line = line ∧ t.col ≠ col)))) := by
  by_cases h0 : left = 0
  · right
    refine ⟨h0, ?_⟩
    unfold meets at h
    cases hk : l[k]? with
    | none => left; exact List.getElem?_eq_none_iff.1 hk
    | some t =>
      right
      refine ⟨t, rfl, ?_⟩
      rw [hk] at h
      simp only [h0, decide_true, Bool.true_and, Bool.and_eq_false_iff, decide_eq_false_iff_not] at h
      by_cases h1 : t.line = line
      · right; exact ⟨h1, by rcases h with h | h; exact absurd h1 h; exact h⟩
      · left; exact h1
  · left; exact h0
theorem meets_1 {l : List Tkn} {line col k left : Nat} (h : meets l line col k left = true) : left = 0 ∧ ∃ t, l[k]? = some t ∧ t.line = line ∧ t.col = col := by
  unfold meets at h
  cases hk : l[k]? with
  | none => rw [hk] at h; simp at h
  | some t => rw [hk] at h; simp at h; exact ⟨h.1, t, rfl, h.2.1, h.2.2⟩
theorem l_TokenPlaces (w : World) (s : List UInt8) (_ : s.length < 9223372036854775808) (_ : Tab w) (hmx : Mx w) : Calls Tryz.prog 4 #[strV s] w (RetV w (.bool true)) := by
 have hszs := size_v s
 by_cases h1 : 3000 < s.length
 ·have f1 : ((3000 : Int) < (s.length : Int)) = True := eq_true (by omega)
  go_enter Tryz.func4, Tryz.ntmps4
  go_wp2_with fail
  (with_reducible refine (l18_awake w hmx).mono ?_); rintro e w1 ⟨rfl, hb1⟩
  have hmx1 := hmx.belw hb1
  go_wp2_with fail
  (with_reducible refine (l18_awake w1 hmx1).mono ?_); rintro e w2 ⟨rfl, hb2⟩
  have bw2 := hb1.trans (hb2.mono hb1.size)
  go_wp2_with fail
  go_ret
  exact retB rfl bw2
 ·have f1 : ((3000 : Int) < (s.length : Int)) = False := eq_false (by omega)
  rcases splitOut_small (s := s) (by omega) with ⟨k, hk, hx⟩ | ⟨l, ht, hx⟩
  ·have HX := Lib.hid hx
   clear hx
   go_enter Tryz.func4, Tryz.ntmps4
   go_wp2_with fail
   (with_reducible refine (l18_awake w hmx).mono ?_); rintro e w1 ⟨rfl, hb1⟩
   go_wp2_with fail
   (with_reducible refine (t_split_x w1 s _ _ HX.out).mono ?_); rintro e w2 ⟨A, n, c, rfl, hS, hb2⟩
   obtain rfl : n = 0 := by have := hS.1; simpa using this.symm
   have bw2 := hb1.trans (hb2.mono hb1.size)
   rw [errV_pos hk]
   clear hS hb2 hb1
   go_wp2_with fail
   go_ret
   exact retB rfl bw2
  ·have hll := hx.len
   have hpl := PlI.start ht
   have HX := Lib.hid hx
   clear hx ht
   go_enter Tryz.func4, Tryz.ntmps4
   go_wp2_with fail
   (with_reducible refine (l18_awake w hmx).mono ?_); rintro e w1 ⟨rfl, hb1⟩
   go_wp2_with fail
   (with_reducible refine (t_split_x w1 s _ _ HX.out).mono ?_); rintro e w2 ⟨A, n, c, rfl, hS, hb2⟩
   obtain rfl : l.length = n := hS.1
   have bw2 := hb1.trans (hb2.mono hb1.size)
   have HS := Lib.hid hS
   have HP := Lib.hid hpl
   clear hS hb2 hb1 hpl
   rw [errV_0]
   go_wp2_with fail
   go_loopw [5, 6, 7, 8, 9] (fun lv cv kv tv iv wr => ∃ i line col k left : Nat, lv = .int .i64 (line : Nat) ∧ cv = .int .i64 (col : Nat) ∧ kv = .int .i64 (k : Nat) ∧ tv = .int .i64 (left : Nat) ∧ iv = .int .i64 (i : Nat) ∧ i ≤ s.length ∧ line ≤ i + 1 ∧ col ≤ i + 1 ∧ k ≤ i ∧ left ≤ 3000 ∧ Hid (PlI s l i line col k left) ∧ Below w2.heap.size w2 wr) (fun _ _ _ _ iv _ => s.length - (intOf iv).toNat)
   case atStart => exact ⟨0, 1, 1, 0, 0, rfl, rfl, rfl, rfl, rfl, Nat.zero_le _, Nat.le_refl _, Nat.le_refl _, Nat.le_refl _, by decide, HP, brefl w2⟩
   case round =>
    clear HP
    obtain ⟨i, line, col, k, left, rfl, rfl, rfl, rfl, rfl, hi, hln, hco, hki, hlf, HP, hb⟩ := hrel
    have bw3 := bw2.trans (hb.mono bw2.size)
    rcases Nat.lt_or_ge i s.length with hlt | hge
    ·have hi1 : ((i : Int) < (s.length : Int)) = True := by simp; omega
     have hlts : i < s.length := hlt
     obtain ⟨c0, hc0⟩ : ∃ c, atB s i = c := ⟨_, rfl⟩
     have hget : ∀ h, (⟨s.toArray⟩ : ByteArray)[i]'h = c0 := fun h => by rw [← hc0]; exact (atB_lt hlt).symm
     have hd := drop_at hlt
     rw [hc0] at hd
     have hst := HP.out.step hd
     have hkl := HP.out.1
     clear hd hc0 HP
     have q10 : ∀ b : Bool, decide (c0 = 10) = b → (((c0.toNat : Nat) : Int) == 10) = b := fun b hb => (byte_eq c0 10).trans hb
     rcases hst with ⟨hm, hst⟩ | ⟨hm, x, hx9, hxp, hxe, hxt, hst⟩
     ·rcases meets_0 hm with h0 | ⟨h0, hk0 | ⟨t, hkt, ht0 | ⟨ht0, ht1⟩⟩⟩
      ·have g0 : ((left : Int) == 0) = false := by simp; omega
       have g1 : (0 < left) = True := eq_true (by omega)
       have e1 : IntKind.i64.wrap ((left : Int) - 1) = ((left - 1 : Nat) : Int) := by rw [show (left : Int) - 1 = ((left - 1 : Nat) : Int) by omega]; exact IntWalk.i64_in _ ⟨by omega, by omega⟩
       clear hm h0
       by_cases h10 : c0 = 10
       ·have q := q10 true (decide_eq_true h10)
        rw [show nextLine c0 line = line + 1 from if_pos h10, show nextCol c0 col = 1 from if_pos h10] at hst
        have HP := Lib.hid hst
        clear hst h10 q10
        go_wp2_with fail
        go_roundw
        case rel => exact ⟨i + 1, line + 1, 1, k, left - 1, by go_num, rfl, rfl, by go_num, by go_num, by omega, by omega, by omega, by omega, by omega, HP, hb⟩
        case measure => simp [intOf]; omega
       ·have q := q10 false (decide_eq_false h10)
        rw [show nextLine c0 line = line from if_neg h10, show nextCol c0 col = col + 1 from if_neg h10] at hst
        have HP := Lib.hid hst
        clear hst h10 q10
        go_wp2_with fail
        go_roundw
        case rel => exact ⟨i + 1, line, col + 1, k, left - 1, rfl, by go_num, rfl, by go_num, by go_num, by omega, by omega, by omega, by omega, by omega, HP, hb⟩
        case measure => simp [intOf]; omega
      ·subst h0
       have g2 : ((k : Int) < (l.length : Int)) = False := by simp; omega
       clear hm
       by_cases h10 : c0 = 10
       ·have q := q10 true (decide_eq_true h10)
        rw [show nextLine c0 line = line + 1 from if_pos h10, show nextCol c0 col = 1 from if_pos h10] at hst
        have HP := Lib.hid hst
        clear hst h10 q10
        go_wp2_with fail
        go_roundw
        case rel => exact ⟨i + 1, line + 1, 1, k, 0, by go_num, rfl, rfl, rfl, by go_num, by omega, by omega, by omega, by omega, by omega, HP, hb⟩
        case measure => simp [intOf]; omega
       ·have q := q10 false (decide_eq_false h10)
        rw [show nextLine c0 line = line from if_neg h10, show nextCol c0 col = col + 1 from if_neg h10] at hst
        have HP := Lib.hid hst
        clear hst h10 q10
        go_wp2_with fail
        go_roundw
        case rel => exact ⟨i + 1, line, col + 1, k, 0, rfl, by go_num, rfl, rfl, by go_num, by omega, by omega, by omega, by omega, by omega, HP, hb⟩
        case measure => simp [intOf]; omega
      ·subst h0
       have hkl2 : k < l.length := by obtain ⟨h9, _⟩ := List.getElem?_eq_some_iff.1 hkt; exact h9
       have g2 : ((k : Int) < (l.length : Int)) = True := by simp; omega
       obtain ⟨g, t9, e, hc, ht9, k0, k1, k2, k3⟩ := (HS.out.belw hb).cells hkl2
       obtain rfl : t9 = t := Option.some.inj (ht9.symm.trans hkt)
       subst e
       have g3 : ((t9.line : Int) == (line : Int)) = false := by simp; omega
       clear hm hkt ht9
       by_cases h10 : c0 = 10
       ·have q := q10 true (decide_eq_true h10)
        rw [show nextLine c0 line = line + 1 from if_pos h10, show nextCol c0 col = 1 from if_pos h10] at hst
        have HP := Lib.hid hst
        clear hst h10 q10
        go_wp2_with fail
        go_roundw
        case rel => exact ⟨i + 1, line + 1, 1, k, 0, by go_num, rfl, rfl, rfl, by go_num, by omega, by omega, by omega, by omega, by omega, HP, hb⟩
        case measure => simp [intOf]; omega
       ·have q := q10 false (decide_eq_false h10)
        rw [show nextLine c0 line = line from if_neg h10, show nextCol c0 col = col + 1 from if_neg h10] at hst
        have HP := Lib.hid hst
        clear hst h10 q10
        go_wp2_with fail
        go_roundw
        case rel => exact ⟨i + 1, line, col + 1, k, 0, rfl, by go_num, rfl, rfl, by go_num, by omega, by omega, by omega, by omega, by omega, HP, hb⟩
        case measure => simp [intOf]; omega
      ·subst h0
       have hkl2 : k < l.length := by obtain ⟨h9, _⟩ := List.getElem?_eq_some_iff.1 hkt; exact h9
       have g2 : ((k : Int) < (l.length : Int)) = True := by simp; omega
       obtain ⟨g, t9, e, hc, ht9, k0, k1, k2, k3⟩ := (HS.out.belw hb).cells hkl2
       obtain rfl : t9 = t := Option.some.inj (ht9.symm.trans hkt)
       subst e
       have g3 : ((t9.line : Int) == (line : Int)) = true := by simp; omega
       have g4 : ((t9.col : Int) == (col : Int)) = false := by simp; omega
       clear hm hkt ht9
       by_cases h10 : c0 = 10
       ·have q := q10 true (decide_eq_true h10)
        rw [show nextLine c0 line = line + 1 from if_pos h10, show nextCol c0 col = 1 from if_pos h10] at hst
        have HP := Lib.hid hst
        clear hst h10 q10
        go_wp2_with fail
        go_roundw
        case rel => exact ⟨i + 1, line + 1, 1, k, 0, by go_num, rfl, rfl, rfl, by go_num, by omega, by omega, by omega, by omega, by omega, HP, hb⟩
        case measure => simp [intOf]; omega
       ·have q := q10 false (decide_eq_false h10)
        rw [show nextLine c0 line = line from if_neg h10, show nextCol c0 col = col + 1 from if_neg h10] at hst
        have HP := Lib.hid hst
        clear hst h10 q10
        go_wp2_with fail
        go_roundw
        case rel => exact ⟨i + 1, line, col + 1, k, 0, rfl, by go_num, rfl, rfl, by go_num, by omega, by omega, by omega, by omega, by omega, HP, hb⟩
        case measure => simp [intOf]; omega
     ·obtain ⟨h0, t, hkt, ht0, ht1⟩ := meets_1 hm
      obtain rfl : x = t := Option.some.inj (hx9.symm.trans hkt)
      subst h0
      have hkl2 : k < l.length := by obtain ⟨h9, _⟩ := List.getElem?_eq_some_iff.1 hkt; exact h9
      have g2 : ((k : Int) < (l.length : Int)) = True := by simp; omega
      obtain ⟨g, t9, e, hc, ht9, k0, k1, k2, k3⟩ := (HS.out.belw hb).cells hkl2
      obtain rfl : t9 = x := Option.some.inj (ht9.symm.trans hkt)
      subst e
      have g3 : ((t9.line : Int) == (line : Int)) = true := by simp; omega
      have g4 : ((t9.col : Int) == (col : Int)) = true := by simp; omega
      obtain ⟨T, hT⟩ : ∃ T, t9.text = T := ⟨_, rfl⟩
      rw [hT] at hxp hxe hxt hst k1
      have g5 : ((T.length : Int) == 0) = false := beq_eq_false_iff_ne.2 (by omega)
      have g6 : ((s.length : Int) < (i : Int) + (T.length : Int)) = False := by simp; omega
      have hwin : IntKind.i64.wrap ((i : Int) + (T.length : Int)) = (i : Int) + (T.length : Int) := IntWalk.i64_in _ ⟨by omega, by omega⟩
      have htn : ((i : Int) + (T.length : Int)).toNat = i + T.length := by omega
      have e3 : (⟨s.toArray⟩ : ByteArray).extract i (i + T.length) = ⟨T.toArray⟩ := by rw [ext_v, show i + T.length - i = T.length by omega, hxt]
      have hn0 : (0 : Int) ≤ (i : Int) + (T.length : Int) := by omega
      have hn1 : (i : Int) + (T.length : Int) ≤ (s.length : Int) := by omega
      have hn2 : (i : Int) ≤ (i : Int) + (T.length : Int) := by omega
      have hi0 : (0 : Int) ≤ (i : Int) := by omega
      have g1 : (0 < T.length) = True := eq_true (by omega)
      have e1 : IntKind.i64.wrap ((T.length : Int) - 1) = ((T.length - 1 : Nat) : Int) := by rw [show (T.length : Int) - 1 = ((T.length - 1 : Nat) : Int) by omega]; exact IntWalk.i64_in _ ⟨by omega, by omega⟩
      have hszT := size_v T
      clear hm hkt ht9 hx9 hT hxt
      by_cases h10 : c0 = 10
      ·have q := q10 true (decide_eq_true h10)
       rw [show nextLine c0 line = line + 1 from if_pos h10, show nextCol c0 col = 1 from if_pos h10] at hst
       have HP := Lib.hid hst
       clear hst h10 q10
       go_wp2_with fail
       go_quiet (fail)
       go_wp2_with fail
       go_roundw
       case rel => exact ⟨i + 1, line + 1, 1, k + 1, T.length - 1, by go_num, rfl, by go_num, by go_num, by go_num, by omega, by omega, by omega, by omega, by omega, HP, below_drewN hb _⟩
       case measure => simp [intOf]; omega
      ·have q := q10 false (decide_eq_false h10)
       rw [show nextLine c0 line = line from if_neg h10, show nextCol c0 col = col + 1 from if_neg h10] at hst
       have HP := Lib.hid hst
       clear hst h10 q10
       go_wp2_with fail
       go_quiet (fail)
       go_wp2_with fail
       go_roundw
       case rel => exact ⟨i + 1, line, col + 1, k + 1, T.length - 1, rfl, by go_num, by go_num, by go_num, by go_num, by omega, by omega, by omega, by omega, by omega, HP, below_drewN hb _⟩
       case measure => simp [intOf]; omega
    ·have hi1 : ((i : Int) < (s.length : Int)) = False := by simp; omega
     obtain rfl : i = s.length := by omega
     have hkl := HP.out.fin
     have g1 : ((k : Int) == (l.length : Int)) = true := by simp; omega
     clear HP
     go_wp2_with fail
     go_ret
     exact retB (by first | rfl | simp [hkl]) bw3
end Go.Proofs.YtfbigmdpdcpkfaaGreatDoor

/- TokenPlaces: every token stands in the text at its line and column, behind the one before it; for every input the law returns true. The listed library variables are tied to the program text. -/
namespace Go.Proofs.YtfbigmdpdcpkfaaGreatDoor
open Go Go.RowKit Bn Go.ChangeShapes Go.WideShapes Go.ChangeAt
theorem places_contract (H : Type) (enc : TypeId × Value → H) (W : World) (base : Nat) (args : Array Value) (ds gs : List (DataW H)) (before : List MemPlace)
    (hval0 : ∀ (j : Nat) t v, Tryz.f4.params[j]? = some t → args[j]? = some v → Value.okWide Tryz.prog W .any base t v)
    (hW : DataW.Whole enc Tryz.prog Tryz.f4.params.toList Rows.tokenPlacesSpec.vars false W args.toList ds gs before) (hL : laidMetH Tryz.prog Rows.tokenPlacesRow.laid W) (hsh : W.ShapedOpen Tryz.prog) :
    Calls Tryz.prog 4 args W fun e W' => ∃ v, e = .returned v ∧ Rows.tokenPlacesSpec.post enc Tryz.prog Tryz.f4 false true false false W args v W' := by
  have hval : ∀ (j : Nat) t v, Tryz.f4.params[j]? = some t → args[j]? = some v → Value.okWide Tryz.prog W .any base t v := hval0
  have htab : Tab W := tab_of_laid hL
  have hmx : Mx W := mx_of_shaped hsh
  have hW' := hW
  obtain ⟨p, q, hA0, hV, rfl, hfz, hnd⟩ := hW
  have hA : DataW.TrodAll enc Tryz.prog W 0 (fun _ => true) true Tryz.f4.params.toList args.toList ds p := hA0
  rw [Tryz.params4] at hA hval
  obtain ⟨v0, d0, rfl, rfl, h0⟩ := trodAll_one hA
  obtain ⟨rfl, rfl⟩ := trodVars_none hV
  obtain ⟨s, rfl, rfl, rfl, hs⟩ := Go.ChangeMaps.open_string Tryz.underlying9 (hval 0 _ v0 rfl rfl) h0
  obtain ⟨t, rfl⟩ : ∃ t : List UInt8, s = ⟨t.toArray⟩ := ⟨s.data.toList, by simp⟩
  have ht : t.length < 9223372036854775808 := by unfold maxLen at hs; have h9 : t.length ≤ _ := hs; omega
  refine (l_TokenPlaces W t ht htab hmx).mono fun e W' ⟨he, hb⟩ => ?_
  subst he
  exact ⟨_, rfl, law_post laid_out Tryz.underlying4 hW' rfl rfl (by kernel_rfl) rfl rfl rfl hb⟩
theorem places_lifted (os : Os) (started : os.Started) (H : Type) (enc : TypeId × Value → H) (F : Stop.Interp) :
    ReturnsInHanded {} Tryz.checked os 4 .any ((OpenSpec.ofChange Rows.tokenPlacesSpec).preRow enc Tryz.prog Tryz.f4 Rows.tokenPlacesRow.domain false Rows.tokenPlacesRow.laid) (((OpenSpec.ofChange Rows.tokenPlacesSpec).at F).post enc Tryz.prog Tryz.f4 false true false false) := by
  have hx : DataW.whole enc Tryz.prog ((laidWorld os).forCall (fun _ _ => 0) ⟨#[], #[.string ⟨#[]⟩], []⟩).memory Tryz.f4.params.toList Rows.tokenPlacesSpec.vars false (#[.string ⟨#[]⟩] : Array Value).toList 8 = some ([.lit (.string [])], [], []) := by kernel_rfl
  have hl : laidMet Tryz.prog Rows.tokenPlacesRow.laid ((laidWorld os).forCall (fun _ _ => 0) ⟨#[], #[.string ⟨#[]⟩], []⟩).memory := laidMet_of_run' 8 (by kernel_rfl) (by kernel_rfl)
  refine returnsInHanded_of_row (C := Tryz.checked) (s := OpenSpec.ofChange Rows.tokenPlacesSpec) own_knob started (by kernel_rfl) Tryz.func4
    (witness_row_at (enc := enc) (C := Tryz.checked) false (laidWorld os) #[.string ⟨#[]⟩] rfl (by kernel_rfl) (by kernel_rfl) (by kernel_rfl)
      (OpenSpec.preRow_of_cond 8 hx (by kernel_rfl) (fun k hk => by cases hk) (by kernel_rfl) hl)) ?_
  intro W base args ds gs before hval hW _ _ _ hL hsh _
  exact places_contract H enc W base args ds gs before hval hW hL hsh
theorem places_j2 : (Rows.tokenPlacesRow.inPlace == Tryz.pinned.checked.prog.inPlace 4) = true := by kernel_rfl
theorem places_j3 : (Rows.tokenPlacesRow.unfollowed == Tryz.pinned.checked.prog.unfollowed 4) = true := by kernel_rfl
theorem places_j4 : (Rows.tokenPlacesRow.recurses == Tryz.pinned.checked.prog.recurses 4) = true := by kernel_rfl
theorem places_j5 : (Rows.tokenPlacesRow.named == Tryz.pinned.checked.prog.varsNamed 4) = true := by kernel_rfl
theorem places_joined : joinedFacts Tryz.pinned.checked.prog 4 Tryz.f4 (OpenSpec.ofChange Rows.tokenPlacesSpec).bare Rows.tokenPlacesRow = true := joined_parts (by kernel_rfl) places_j2 places_j3 places_j4 places_j5 (by kernel_rfl)
theorem places_inst : Tryz.f4.isInstance Tryz.pinned.checked.prog Rows.tokenPlacesRow.origin Rows.tokenPlacesRow.targs := of_decide_eq_true (by kernel_rfl)
theorem places_said : Rows.TokenPlacesSaid :=
  OpenClaim.holds_of_cond 4 Tryz.f4 rfl rfl rfl rfl rfl rfl rfl ⟨rfl, rfl, rfl, rfl, rfl⟩ rfl rfl rfl rfl rfl (by kernel_rfl) Tryz.func4 places_joined
    places_inst (by unfold Func.isWrapper; first | (rw [if_pos (by decide +kernel)]; kernel_rfl) | (rw [if_neg (by decide +kernel)]; exact ⟨rfl, rfl⟩))
    (fun os started H enc _ F => by rw [OpenClaim.pre_eq_preRow]; exact places_lifted os started H enc F)
theorem places_plain (f : FuncId) (fn : Func) (hf : Tryz.pinned.checked.prog.funcNamed "linkwork/linkworklaw18.TokenPlaces" = some f) (hfn : Tryz.pinned.checked.prog.funcs[f]? = some fn) :
    true = Tryz.pinned.checked.prog.looks [] ∧ ∀ (j : Nat) t, fn.params[j]? = some t → Tryz.pinned.checked.prog.wantsStandIn t = false := by
  obtain rfl : f = 4 := Option.some.inj ((show Tryz.prog.funcNamed "linkwork/linkworklaw18.TokenPlaces" = some 4 by kernel_rfl).symm.trans hf) |>.symm
  obtain rfl : fn = Tryz.f4 := (Option.some.inj (Tryz.func4.symm.trans hfn)).symm
  refine ⟨by kernel_rfl, fun j t ht => ?_⟩
  rw [Tryz.params4] at ht
  have hm : t ∈ [9] := by
    have := Array.mem_of_getElem? ht
    simp at this ⊢
    first
      | exact this
      | exact .inl this
  have hall : ([9].all fun u => !Tryz.prog.wantsStandIn u) = true := by kernel_rfl
  exact (show Tryz.prog.wantsStandIn t = false by simpa using List.all_eq_true.1 hall t hm)
theorem places_holds : Rows.TokenPlacesCardSaid :=
  Claim7.holds_tied_plain_at .later [] _ _ _ _ places_said (fun _ h => by cases h) (by kernel_rfl) (fun _ h => by cases h) tokenPlaces_row_tie rfl ⟨rfl, rfl⟩ (by kernel_rfl) rfl places_plain (by kernel_rfl)
end Go.Proofs.YtfbigmdpdcpkfaaGreatDoor
