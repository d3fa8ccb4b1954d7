/- TokenSplits: Split returns the tokens of a text, or the first error, as the reference does; for every input the law returns true. The listed library variables are tied to the program text. -/
import Derived.Below
import Derived.Laws.OwnMore
import Derived.Deep.Draws
import Derived.OneCell
import Derived.Laws.Rows
import Derived.Test.YtfbigmdpdcpkfaaGreatDoorProg
import Derived.WalkKit
import Derived.WalkSpells
import Derived.WalkLawsBesides
import Derived.BigQuiet
import Derived.Deep.QuietTactic
import Derived.Deep.AppendLies
import Derived.Lib.Hide
import Derived.Deep.RegionHeld3
import Derived.Deep.DrawnRows
import Derived.Shelf.Strings.Builder1
import Derived.Shelf.Strings.Builder2
import Derived.Shelf.Strings.OnBuilder
import Derived.Shelf.Strings.Trim
import Derived.Shelf.Small.Utf8
import Derived.Shelf.Small.Bits
import Derived.Shelf.Small.Strs
import Derived.Shelf.Small.Wraps
import Derived.Shelf.Strings.BuilderF
import Derived.Shelf.Strconv.Atoi
import Derived.Shelf.Strconv.Itoa0
import Derived.Shelf.Strconv.Itoa1
import Derived.Shelf.LaysM
import Derived.Shelf.Strconv.Itoa2
import Derived.Shelf.Strconv.Itoa3
import Derived.Shelf.Strings.Search1
import Derived.Shelf.Strings.Search2
import Derived.Shelf.Strings.Cut
import Derived.Shelf.Strings.Shaped
import Derived.Shelf.Strings.Prefix
import Derived.Shelf.Strings.Runes
import Derived.Shelf.Strings.AsciiSet
import Derived.Shelf.Bits.Mul64
import Derived.Shelf.Strings.Repeat
import Derived.Shelf.Unicode.DecodeSlow
import Derived.IntWalk
import Derived.Deep.DeepCutAuto
import Derived.Deep.RegionHeld
import Derived.Lib.ItoaNum
import Derived.Lib.ItoaMem
import Derived.Lib.Repeat
import Derived.Lib.Join
import Derived.Lib.Atoi
import Derived.Lib.SlTrimSet
import Derived.Lib.AppendIntMem
import Derived.Shelf.Strings.SlTrimAscii
import Derived.Lib.IndexMore
import Derived.Test.YtfbigmdpdcpkfaaGreatDoorCards
import Derived.Test.YtfbigmdpdcpkfaaGreatDoorTie
import Derived.ProofKit
import Derived.OpenShut
import Derived.Deep.DeepHandedRow
import Derived.Lib.LaidTab
import Derived.Shelf.Vars
import Derived.ChangeMaps5
import Derived.Test.YtfbigmdpdcpkfaaGreatDoorA3
set_option linter.unusedVariables false
set_option maxHeartbeats 8000000
set_option maxRecDepth 100000
namespace Go.Proofs.YtfbigmdpdcpkfaaGreatDoor
open Go Go.RowKit Bn
attribute [local go_sem ↓] Go.wp_at_zero Go.wp_at_succ
def isBlk2 (c : UInt8) : Bool := c == 32 || c == 9 || c == 10 || c == 13
theorem isBlk2_nat (c : UInt8) : isBlk2 c = (decide (c.toNat = 32) || decide (c.toNat = 9) || decide (c.toNat = 10) || decide (c.toNat = 13)) := by unfold isBlk2; rw [beq_nat, beq_nat, beq_nat, beq_nat]; rfl
theorem r_letter (w : World) (c : UInt8) (v : Bool) (hv : isLet c = v) : Calls Tryz.prog 54 #[.int .u8 (c.toNat : Nat)] w (RetV w (.bool v)) := by
 have hc : c.toNat < 256 := c.toNat_lt
 obtain ⟨n, hn⟩ : ∃ n, c.toNat = n := ⟨_, rfl⟩
 rw [hn] at hc ⊢
 have hd : v = ((decide (97 ≤ n) && decide (n ≤ 122)) || (decide (65 ≤ n) && decide (n ≤ 90))) := by rw [← hv, isLet_nat, hn]
 clear hv
 rcases (show (0 ≤ n ∧ n ≤ 64) ∨ (65 ≤ n ∧ n ≤ 90) ∨ (91 ≤ n ∧ n ≤ 96) ∨ (97 ≤ n ∧ n ≤ 122) ∨ (123 ≤ n ∧ n ≤ 255) by omega) with ⟨ha, hb⟩ | ⟨ha, hb⟩ | ⟨ha, hb⟩ | ⟨ha, hb⟩ | ⟨ha, hb⟩
 ·have ege97 : ((97 : Int) ≤ (n : Int)) = False := by simp; omega
  have ele122 : ((n : Int) ≤ 122) = True := by simp; omega
  have ege65 : ((65 : Int) ≤ (n : Int)) = False := by simp; omega
  have ele90 : ((n : Int) ≤ 90) = True := by simp; omega
  obtain rfl : v = false := by rw [hd]; simp; omega
  clear hd hn
  go_enter Tryz.func54, Tryz.ntmps54
  go_wp2_with fail
  go_ret
  exact retB rfl (brefl w)
 ·have ege97 : ((97 : Int) ≤ (n : Int)) = False := by simp; omega
  have ele122 : ((n : Int) ≤ 122) = True := by simp; omega
  have ege65 : ((65 : Int) ≤ (n : Int)) = True := by simp; omega
  have ele90 : ((n : Int) ≤ 90) = True := by simp; omega
  obtain rfl : v = true := by rw [hd]; simp; omega
  clear hd hn
  go_enter Tryz.func54, Tryz.ntmps54
  go_wp2_with fail
  go_ret
  exact retB rfl (brefl w)
 ·have ege97 : ((97 : Int) ≤ (n : Int)) = False := by simp; omega
  have ele122 : ((n : Int) ≤ 122) = True := by simp; omega
  have ege65 : ((65 : Int) ≤ (n : Int)) = True := by simp; omega
  have ele90 : ((n : Int) ≤ 90) = False := by simp; omega
  obtain rfl : v = false := by rw [hd]; simp; omega
  clear hd hn
  go_enter Tryz.func54, Tryz.ntmps54
  go_wp2_with fail
  go_ret
  exact retB rfl (brefl w)
 ·have ege97 : ((97 : Int) ≤ (n : Int)) = True := by simp; omega
  have ele122 : ((n : Int) ≤ 122) = True := by simp; omega
  have ege65 : ((65 : Int) ≤ (n : Int)) = True := by simp; omega
  have ele90 : ((n : Int) ≤ 90) = False := by simp; omega
  obtain rfl : v = true := by rw [hd]; simp; omega
  clear hd hn
  go_enter Tryz.func54, Tryz.ntmps54
  go_wp2_with fail
  go_ret
  exact retB rfl (brefl w)
 ·have ege97 : ((97 : Int) ≤ (n : Int)) = True := by simp; omega
  have ele122 : ((n : Int) ≤ 122) = False := by simp; omega
  have ege65 : ((65 : Int) ≤ (n : Int)) = True := by simp; omega
  have ele90 : ((n : Int) ≤ 90) = False := by simp; omega
  obtain rfl : v = false := by rw [hd]; simp; omega
  clear hd hn
  go_enter Tryz.func54, Tryz.ntmps54
  go_wp2_with fail
  go_ret
  exact retB rfl (brefl w)
theorem r_digit (w : World) (c : UInt8) (v : Bool) (hv : isDg c = v) : Calls Tryz.prog 77 #[.int .u8 (c.toNat : Nat)] w (RetV w (.bool v)) := by
 have hc : c.toNat < 256 := c.toNat_lt
 obtain ⟨n, hn⟩ : ∃ n, c.toNat = n := ⟨_, rfl⟩
 rw [hn] at hc ⊢
 have hd : v = (decide (48 ≤ n) && decide (n ≤ 57)) := by rw [← hv, isDg_nat, hn]
 clear hv
 rcases (show (0 ≤ n ∧ n ≤ 47) ∨ (48 ≤ n ∧ n ≤ 57) ∨ (58 ≤ n ∧ n ≤ 255) by omega) with ⟨ha, hb⟩ | ⟨ha, hb⟩ | ⟨ha, hb⟩
 ·have ege48 : ((48 : Int) ≤ (n : Int)) = False := by simp; omega
  have ele57 : ((n : Int) ≤ 57) = True := by simp; omega
  obtain rfl : v = false := by rw [hd]; simp; omega
  clear hd hn
  go_enter Tryz.func77, Tryz.ntmps77
  go_wp2_with fail
  go_ret
  exact retB rfl (brefl w)
 ·have ege48 : ((48 : Int) ≤ (n : Int)) = True := by simp; omega
  have ele57 : ((n : Int) ≤ 57) = True := by simp; omega
  obtain rfl : v = true := by rw [hd]; simp; omega
  clear hd hn
  go_enter Tryz.func77, Tryz.ntmps77
  go_wp2_with fail
  go_ret
  exact retB rfl (brefl w)
 ·have ege48 : ((48 : Int) ≤ (n : Int)) = True := by simp; omega
  have ele57 : ((n : Int) ≤ 57) = False := by simp; omega
  obtain rfl : v = false := by rw [hd]; simp; omega
  clear hd hn
  go_enter Tryz.func77, Tryz.ntmps77
  go_wp2_with fail
  go_ret
  exact retB rfl (brefl w)
theorem r_sign18 (w : World) (c : UInt8) (v : Bool) (hv : isSgn c = v) : Calls Tryz.prog 55 #[.int .u8 (c.toNat : Nat)] w (RetV w (.bool v)) := by
 have hc : c.toNat < 256 := c.toNat_lt
 obtain ⟨n, hn⟩ : ∃ n, c.toNat = n := ⟨_, rfl⟩
 rw [hn] at hc ⊢
 have hd : v = (decide (n = 123) || decide (n = 125) || decide (n = 59) || decide (n = 46)) := by rw [← hv, isSgn_nat, hn]
 clear hv
 rcases (show (0 ≤ n ∧ n ≤ 45) ∨ (46 ≤ n ∧ n ≤ 46) ∨ (47 ≤ n ∧ n ≤ 58) ∨ (59 ≤ n ∧ n ≤ 59) ∨ (60 ≤ n ∧ n ≤ 122) ∨ (123 ≤ n ∧ n ≤ 123) ∨ (124 ≤ n ∧ n ≤ 124) ∨ (125 ≤ n ∧ n ≤ 125) ∨ (126 ≤ n ∧ n ≤ 255) by omega) with ⟨ha, hb⟩ | ⟨ha, hb⟩ | ⟨ha, hb⟩ | ⟨ha, hb⟩ | ⟨ha, hb⟩ | ⟨ha, hb⟩ | ⟨ha, hb⟩ | ⟨ha, hb⟩ | ⟨ha, hb⟩
 ·have q123 : ((n : Int) == 123) = false := by simp; omega
  have q125 : ((n : Int) == 125) = false := by simp; omega
  have q59 : ((n : Int) == 59) = false := by simp; omega
  have q46 : ((n : Int) == 46) = false := by simp; omega
  obtain rfl : v = false := by rw [hd]; simp; omega
  clear hd hn
  go_enter Tryz.func55, Tryz.ntmps55
  go_wp2_with fail
  go_ret
  exact retB rfl (brefl w)
 ·have q123 : ((n : Int) == 123) = false := by simp; omega
  have q125 : ((n : Int) == 125) = false := by simp; omega
  have q59 : ((n : Int) == 59) = false := by simp; omega
  have q46 : ((n : Int) == 46) = true := by simp; omega
  obtain rfl : v = true := by rw [hd]; simp; omega
  clear hd hn
  go_enter Tryz.func55, Tryz.ntmps55
  go_wp2_with fail
  go_ret
  exact retB rfl (brefl w)
 ·have q123 : ((n : Int) == 123) = false := by simp; omega
  have q125 : ((n : Int) == 125) = false := by simp; omega
  have q59 : ((n : Int) == 59) = false := by simp; omega
  have q46 : ((n : Int) == 46) = false := by simp; omega
  obtain rfl : v = false := by rw [hd]; simp; omega
  clear hd hn
  go_enter Tryz.func55, Tryz.ntmps55
  go_wp2_with fail
  go_ret
  exact retB rfl (brefl w)
 ·have q123 : ((n : Int) == 123) = false := by simp; omega
  have q125 : ((n : Int) == 125) = false := by simp; omega
  have q59 : ((n : Int) == 59) = true := by simp; omega
  have q46 : ((n : Int) == 46) = false := by simp; omega
  obtain rfl : v = true := by rw [hd]; simp; omega
  clear hd hn
  go_enter Tryz.func55, Tryz.ntmps55
  go_wp2_with fail
  go_ret
  exact retB rfl (brefl w)
 ·have q123 : ((n : Int) == 123) = false := by simp; omega
  have q125 : ((n : Int) == 125) = false := by simp; omega
  have q59 : ((n : Int) == 59) = false := by simp; omega
  have q46 : ((n : Int) == 46) = false := by simp; omega
  obtain rfl : v = false := by rw [hd]; simp; omega
  clear hd hn
  go_enter Tryz.func55, Tryz.ntmps55
  go_wp2_with fail
  go_ret
  exact retB rfl (brefl w)
 ·have q123 : ((n : Int) == 123) = true := by simp; omega
  have q125 : ((n : Int) == 125) = false := by simp; omega
  have q59 : ((n : Int) == 59) = false := by simp; omega
  have q46 : ((n : Int) == 46) = false := by simp; omega
  obtain rfl : v = true := by rw [hd]; simp; omega
  clear hd hn
  go_enter Tryz.func55, Tryz.ntmps55
  go_wp2_with fail
  go_ret
  exact retB rfl (brefl w)
 ·have q123 : ((n : Int) == 123) = false := by simp; omega
  have q125 : ((n : Int) == 125) = false := by simp; omega
  have q59 : ((n : Int) == 59) = false := by simp; omega
  have q46 : ((n : Int) == 46) = false := by simp; omega
  obtain rfl : v = false := by rw [hd]; simp; omega
  clear hd hn
  go_enter Tryz.func55, Tryz.ntmps55
  go_wp2_with fail
  go_ret
  exact retB rfl (brefl w)
 ·have q123 : ((n : Int) == 123) = false := by simp; omega
  have q125 : ((n : Int) == 125) = true := by simp; omega
  have q59 : ((n : Int) == 59) = false := by simp; omega
  have q46 : ((n : Int) == 46) = false := by simp; omega
  obtain rfl : v = true := by rw [hd]; simp; omega
  clear hd hn
  go_enter Tryz.func55, Tryz.ntmps55
  go_wp2_with fail
  go_ret
  exact retB rfl (brefl w)
 ·have q123 : ((n : Int) == 123) = false := by simp; omega
  have q125 : ((n : Int) == 125) = false := by simp; omega
  have q59 : ((n : Int) == 59) = false := by simp; omega
  have q46 : ((n : Int) == 46) = false := by simp; omega
  obtain rfl : v = false := by rw [hd]; simp; omega
  clear hd hn
  go_enter Tryz.func55, Tryz.ntmps55
  go_wp2_with fail
  go_ret
  exact retB rfl (brefl w)
theorem r_blank (w : World) (c : UInt8) (v : Bool) (hv : isBlk2 c = v) : Calls Tryz.prog 27 #[.int .u8 (c.toNat : Nat)] w (RetV w (.bool v)) := by
 have hc : c.toNat < 256 := c.toNat_lt
 obtain ⟨n, hn⟩ : ∃ n, c.toNat = n := ⟨_, rfl⟩
 rw [hn] at hc ⊢
 have hd : v = (decide (n = 32) || decide (n = 9) || decide (n = 10) || decide (n = 13)) := by rw [← hv, isBlk2_nat, hn]
 clear hv
 rcases (show (0 ≤ n ∧ n ≤ 8) ∨ (9 ≤ n ∧ n ≤ 9) ∨ (10 ≤ n ∧ n ≤ 10) ∨ (11 ≤ n ∧ n ≤ 12) ∨ (13 ≤ n ∧ n ≤ 13) ∨ (14 ≤ n ∧ n ≤ 31) ∨ (32 ≤ n ∧ n ≤ 32) ∨ (33 ≤ n ∧ n ≤ 255) by omega) with ⟨ha, hb⟩ | ⟨ha, hb⟩ | ⟨ha, hb⟩ | ⟨ha, hb⟩ | ⟨ha, hb⟩ | ⟨ha, hb⟩ | ⟨ha, hb⟩ | ⟨ha, hb⟩
 ·have q32 : ((n : Int) == 32) = false := by simp; omega
  have q9 : ((n : Int) == 9) = false := by simp; omega
  have q10 : ((n : Int) == 10) = false := by simp; omega
  have q13 : ((n : Int) == 13) = false := by simp; omega
  obtain rfl : v = false := by rw [hd]; simp; omega
  clear hd hn
  go_enter Tryz.func27, Tryz.ntmps27
  go_wp2_with fail
  go_ret
  exact retB rfl (brefl w)
 ·have q32 : ((n : Int) == 32) = false := by simp; omega
  have q9 : ((n : Int) == 9) = true := by simp; omega
  have q10 : ((n : Int) == 10) = false := by simp; omega
  have q13 : ((n : Int) == 13) = false := by simp; omega
  obtain rfl : v = true := by rw [hd]; simp; omega
  clear hd hn
  go_enter Tryz.func27, Tryz.ntmps27
  go_wp2_with fail
  go_ret
  exact retB rfl (brefl w)
 ·have q32 : ((n : Int) == 32) = false := by simp; omega
  have q9 : ((n : Int) == 9) = false := by simp; omega
  have q10 : ((n : Int) == 10) = true := by simp; omega
  have q13 : ((n : Int) == 13) = false := by simp; omega
  obtain rfl : v = true := by rw [hd]; simp; omega
  clear hd hn
  go_enter Tryz.func27, Tryz.ntmps27
  go_wp2_with fail
  go_ret
  exact retB rfl (brefl w)
 ·have q32 : ((n : Int) == 32) = false := by simp; omega
  have q9 : ((n : Int) == 9) = false := by simp; omega
  have q10 : ((n : Int) == 10) = false := by simp; omega
  have q13 : ((n : Int) == 13) = false := by simp; omega
  obtain rfl : v = false := by rw [hd]; simp; omega
  clear hd hn
  go_enter Tryz.func27, Tryz.ntmps27
  go_wp2_with fail
  go_ret
  exact retB rfl (brefl w)
 ·have q32 : ((n : Int) == 32) = false := by simp; omega
  have q9 : ((n : Int) == 9) = false := by simp; omega
  have q10 : ((n : Int) == 10) = false := by simp; omega
  have q13 : ((n : Int) == 13) = true := by simp; omega
  obtain rfl : v = true := by rw [hd]; simp; omega
  clear hd hn
  go_enter Tryz.func27, Tryz.ntmps27
  go_wp2_with fail
  go_ret
  exact retB rfl (brefl w)
 ·have q32 : ((n : Int) == 32) = false := by simp; omega
  have q9 : ((n : Int) == 9) = false := by simp; omega
  have q10 : ((n : Int) == 10) = false := by simp; omega
  have q13 : ((n : Int) == 13) = false := by simp; omega
  obtain rfl : v = false := by rw [hd]; simp; omega
  clear hd hn
  go_enter Tryz.func27, Tryz.ntmps27
  go_wp2_with fail
  go_ret
  exact retB rfl (brefl w)
 ·have q32 : ((n : Int) == 32) = true := by simp; omega
  have q9 : ((n : Int) == 9) = false := by simp; omega
  have q10 : ((n : Int) == 10) = false := by simp; omega
  have q13 : ((n : Int) == 13) = false := by simp; omega
  obtain rfl : v = true := by rw [hd]; simp; omega
  clear hd hn
  go_enter Tryz.func27, Tryz.ntmps27
  go_wp2_with fail
  go_ret
  exact retB rfl (brefl w)
 ·have q32 : ((n : Int) == 32) = false := by simp; omega
  have q9 : ((n : Int) == 9) = false := by simp; omega
  have q10 : ((n : Int) == 10) = false := by simp; omega
  have q13 : ((n : Int) == 13) = false := by simp; omega
  obtain rfl : v = false := by rw [hd]; simp; omega
  clear hd hn
  go_enter Tryz.func27, Tryz.ntmps27
  go_wp2_with fail
  go_ret
  exact retB rfl (brefl w)
end Go.Proofs.YtfbigmdpdcpkfaaGreatDoor

namespace Go.Proofs.YtfbigmdpdcpkfaaGreatDoor
open Go Go.RowKit Bn
attribute [local go_sem ↓] Go.wp_at_zero Go.wp_at_succ
theorem r_at (w : World) (s : List UInt8) (i : Nat) (d : UInt8) (hd : atB s i = d) : Calls Tryz.prog 40 #[strV s, .int .i64 (i : Nat)] w (RetV w (.int .u8 (d.toNat : Nat))) := by
  have hszs := size_v s
  rcases Nat.lt_or_ge i s.length with hl | hl
  · have hget : ∀ h, (⟨s.toArray⟩ : ByteArray)[i]'h = d := fun h => by rw [← hd]; exact (atB_lt hl).symm
    have hlts : i < s.length := hl
    have hi0 : (0 : Int) ≤ ((i : Nat) : Int) := by omega
    have e1 : ((i : Int) < (s.length : Int)) = True := by simp; omega
    clear hd
    go_enter Tryz.func40, Tryz.ntmps40
    go_wp2_with fail
    go_ret
    exact ⟨rfl, (brefl w)⟩
  · obtain rfl : d = 0 := by rw [← hd]; exact atB_ge hl
    have e1 : ((i : Int) < (s.length : Int)) = False := by simp; omega
    clear hd
    go_enter Tryz.func40, Tryz.ntmps40
    go_wp2_with fail
    go_ret
    exact ⟨rfl, (brefl w)⟩
theorem r_wordEnd (w : World) (s : List UInt8) (i : Nat) (hi : i ≤ s.length) (hs : s.length < 4611686018427387904) (v : Nat) (hv : i + wordN (s.drop i) = v) : Calls Tryz.prog 46 #[strV s, .int .i64 (i : Nat)] w (RetV w (.int .i64 (v : Nat))) := by
 obtain ⟨d, hd⟩ : ∃ d, atB s i = d := ⟨_, rfl⟩
 cases hl : isLet d
 ·obtain rfl : i = v := by rw [← hv, wordN_no (by rw [hd]; exact hl)]; rfl
  clear hv
  go_enter Tryz.func46, Tryz.ntmps46
  go_wp2_with fail
  (with_reducible refine (r_at _ (s) (i) d hd).mono ?_); rintro e w1 ⟨rfl, q1⟩
  have bw1 := (brefl w).trans (q1.mono (brefl w).size)
  have lw1 := q1.size
  clear q1
  go_wp2_with fail
  (with_reducible refine (r_letter _ d false hl).mono ?_); rintro e w2 ⟨rfl, q2⟩
  have bw2 := bw1.trans (q2.mono bw1.size)
  have lw2 := q2.size
  clear q2 bw1
  go_wp2_with fail
  go_ret
  exact ⟨rfl, bw2⟩
 ·have hv : i + ((s.drop i).takeWhile isPart).length = v := by rw [← hv, (wordN_at (by rw [hd]; exact hl)).2, (tw_step (p := isPart) rfl (by rw [hd]; exact isPart_1 hl)).2]
  have HV := Lib.hid hv
  clear hv
  go_enter Tryz.func46, Tryz.ntmps46
  go_wp2_with fail
  (with_reducible refine (r_at _ (s) (i) d hd).mono ?_); rintro e w1 ⟨rfl, q1⟩
  have bw1 := (brefl w).trans (q1.mono (brefl w).size)
  have lw1 := q1.size
  clear q1
  go_wp2_with fail
  (with_reducible refine (r_letter _ d true hl).mono ?_); rintro e w2 ⟨rfl, q2⟩
  have bw2 := bw1.trans (q2.mono bw1.size)
  have lw2 := q2.size
  clear q2 bw1
  go_wp2_with fail
  clear hd hl
  go_loopw [1] (fun iv wr => ∃ (j : Nat), iv = .int .i64 (j : Nat) ∧ j ≤ s.length ∧ Hid (j + ((s.drop j).takeWhile isPart).length = v) ∧ Kp w2 wr ∧ Below w.heap.size w wr ∧ w2.heap.size ≤ wr.heap.size) (fun iv _ => s.length - (intOf iv).toNat)
  case atStart => exact ⟨i, rfl, hi, HV, Kp.refl _, bw2, Nat.le_refl _⟩
  case round =>
   obtain ⟨j, rfl, hj, hw, hkp, hbw, hlw⟩ := hrel
   obtain ⟨d, hd⟩ : ∃ d, atB s j = d := ⟨_, rfl⟩
   cases hl : isLet d
   ·cases hg : isDg d
    ·cases hu : (d == 95)
     ·have hjv : j = v := by rw [← hw.out, tw_stop (p := isPart) (by rw [hd]; exact isPart_0 hl hg hu)]; rfl
      subst hjv
      have h95 : (((d.toNat : Nat) : Int) == 95) = false := (byte_eq d 95).trans hu
      go_wp2_with fail
      (with_reducible refine (r_at _ (s) (j) d hd).mono ?_); rintro e w3 ⟨rfl, q3⟩
      replace hkp := hkp.below q3
      have bw3 := hbw.trans (q3.mono hbw.size)
      have lw3 := q3.size
      clear q3
      go_wp2_with fail
      (with_reducible refine (r_letter _ d false hl).mono ?_); rintro e w4 ⟨rfl, q4⟩
      replace hkp := hkp.below q4
      have bw4 := bw3.trans (q4.mono bw3.size)
      have lw4 := q4.size
      clear q4 bw3
      go_wp2_with fail
      (with_reducible refine (r_at _ (s) (j) d hd).mono ?_); rintro e w5 ⟨rfl, q5⟩
      replace hkp := hkp.below q5
      have bw5 := bw4.trans (q5.mono bw4.size)
      have lw5 := q5.size
      clear q5 bw4
      go_wp2_with fail
      (with_reducible refine (r_digit _ d false hg).mono ?_); rintro e w6 ⟨rfl, q6⟩
      replace hkp := hkp.below q6
      have bw6 := bw5.trans (q6.mono bw5.size)
      have lw6 := q6.size
      clear q6 bw5
      go_wp2_with fail
      (with_reducible refine (r_at _ (s) (j) d hd).mono ?_); rintro e w7 ⟨rfl, q7⟩
      replace hkp := hkp.below q7
      have bw7 := bw6.trans (q7.mono bw6.size)
      have lw7 := q7.size
      clear q7 bw6
      go_wp2_with fail
      go_ret
      exact ⟨rfl, bw7⟩
     ·obtain ⟨hlt, hst⟩ := tw_step (p := isPart) (s := s) (i := j) rfl (by rw [hd]; exact isPart_3 hu)
      have hw2 : Hid (j + 1 + ((s.drop (j + 1)).takeWhile isPart).length = v) := Lib.hid (by rw [← hw.out, hst]; omega)
      clear hst
      have h95 : (((d.toNat : Nat) : Int) == 95) = true := (byte_eq d 95).trans hu
      go_wp2_with fail
      (with_reducible refine (r_at _ (s) (j) d hd).mono ?_); rintro e w3 ⟨rfl, q3⟩
      replace hkp := hkp.below q3
      have bw3 := hbw.trans (q3.mono hbw.size)
      have lw3 := q3.size
      clear q3
      go_wp2_with fail
      (with_reducible refine (r_letter _ d false hl).mono ?_); rintro e w4 ⟨rfl, q4⟩
      replace hkp := hkp.below q4
      have bw4 := bw3.trans (q4.mono bw3.size)
      have lw4 := q4.size
      clear q4 bw3
      go_wp2_with fail
      (with_reducible refine (r_at _ (s) (j) d hd).mono ?_); rintro e w5 ⟨rfl, q5⟩
      replace hkp := hkp.below q5
      have bw5 := bw4.trans (q5.mono bw4.size)
      have lw5 := q5.size
      clear q5 bw4
      go_wp2_with fail
      (with_reducible refine (r_digit _ d false hg).mono ?_); rintro e w6 ⟨rfl, q6⟩
      replace hkp := hkp.below q6
      have bw6 := bw5.trans (q6.mono bw5.size)
      have lw6 := q6.size
      clear q6 bw5
      go_wp2_with fail
      (with_reducible refine (r_at _ (s) (j) d hd).mono ?_); rintro e w7 ⟨rfl, q7⟩
      replace hkp := hkp.below q7
      have bw7 := bw6.trans (q7.mono bw6.size)
      have lw7 := q7.size
      clear q7 bw6
      go_wp2_with fail
      go_roundw
      case rel => exact ⟨j + 1, by go_num, by omega, hw2, hkp, bw7, by omega⟩
      case measure => simp [intOf]; omega
    ·obtain ⟨hlt, hst⟩ := tw_step (p := isPart) (s := s) (i := j) rfl (by rw [hd]; exact isPart_2 hg)
     have hw2 : Hid (j + 1 + ((s.drop (j + 1)).takeWhile isPart).length = v) := Lib.hid (by rw [← hw.out, hst]; omega)
     clear hst
     go_wp2_with fail
     (with_reducible refine (r_at _ (s) (j) d hd).mono ?_); rintro e w3 ⟨rfl, q3⟩
     replace hkp := hkp.below q3
     have bw3 := hbw.trans (q3.mono hbw.size)
     have lw3 := q3.size
     clear q3
     go_wp2_with fail
     (with_reducible refine (r_letter _ d false hl).mono ?_); rintro e w4 ⟨rfl, q4⟩
     replace hkp := hkp.below q4
     have bw4 := bw3.trans (q4.mono bw3.size)
     have lw4 := q4.size
     clear q4 bw3
     go_wp2_with fail
     (with_reducible refine (r_at _ (s) (j) d hd).mono ?_); rintro e w5 ⟨rfl, q5⟩
     replace hkp := hkp.below q5
     have bw5 := bw4.trans (q5.mono bw4.size)
     have lw5 := q5.size
     clear q5 bw4
     go_wp2_with fail
     (with_reducible refine (r_digit _ d true hg).mono ?_); rintro e w6 ⟨rfl, q6⟩
     replace hkp := hkp.below q6
     have bw6 := bw5.trans (q6.mono bw5.size)
     have lw6 := q6.size
     clear q6 bw5
     go_wp2_with fail
     go_roundw
     case rel => exact ⟨j + 1, by go_num, by omega, hw2, hkp, bw6, by omega⟩
     case measure => simp [intOf]; omega
   ·obtain ⟨hlt, hst⟩ := tw_step (p := isPart) (s := s) (i := j) rfl (by rw [hd]; exact isPart_1 hl)
    have hw2 : Hid (j + 1 + ((s.drop (j + 1)).takeWhile isPart).length = v) := Lib.hid (by rw [← hw.out, hst]; omega)
    clear hst
    go_wp2_with fail
    (with_reducible refine (r_at _ (s) (j) d hd).mono ?_); rintro e w3 ⟨rfl, q3⟩
    replace hkp := hkp.below q3
    have bw3 := hbw.trans (q3.mono hbw.size)
    have lw3 := q3.size
    clear q3
    go_wp2_with fail
    (with_reducible refine (r_letter _ d true hl).mono ?_); rintro e w4 ⟨rfl, q4⟩
    replace hkp := hkp.below q4
    have bw4 := bw3.trans (q4.mono bw3.size)
    have lw4 := q4.size
    clear q4 bw3
    go_wp2_with fail
    go_roundw
    case rel => exact ⟨j + 1, by go_num, by omega, hw2, hkp, bw4, by omega⟩
    case measure => simp [intOf]; omega
theorem r_digitsEnd (w : World) (s : List UInt8) (i : Nat) (hi : i ≤ s.length) (hs : s.length < 4611686018427387904) (v : Nat) (hv : i + digN (s.drop i) = v) : Calls Tryz.prog 38 #[strV s, .int .i64 (i : Nat)] w (RetV w (.int .i64 (v : Nat))) := by
 have HV := Lib.hid hv
 clear hv
 go_enter Tryz.func38, Tryz.ntmps38
 go_wp2_with fail
 go_loopw [1] (fun iv wr => ∃ (j : Nat), iv = .int .i64 (j : Nat) ∧ j ≤ s.length ∧ Hid (j + ((s.drop j).takeWhile isDg).length = v) ∧ Kp w wr ∧ Below w.heap.size w wr ∧ w.heap.size ≤ wr.heap.size) (fun iv _ => s.length - (intOf iv).toNat)
 case atStart => exact ⟨i, rfl, hi, HV, Kp.refl _, (brefl w), Nat.le_refl _⟩
 case round =>
  obtain ⟨j, rfl, hj, hw, hkp, hbw, hlw⟩ := hrel
  obtain ⟨d, hd⟩ : ∃ d, atB s j = d := ⟨_, rfl⟩
  cases hg : isDg d
  ·have hjv : j = v := by rw [← hw.out, tw_stop (p := isDg) (by rw [hd]; exact hg)]; rfl
   subst hjv
   go_wp2_with fail
   (with_reducible refine (r_at _ (s) (j) d hd).mono ?_); rintro e w1 ⟨rfl, q1⟩
   replace hkp := hkp.below q1
   have bw1 := hbw.trans (q1.mono hbw.size)
   have lw1 := q1.size
   clear q1
   go_wp2_with fail
   (with_reducible refine (r_digit _ d false hg).mono ?_); rintro e w2 ⟨rfl, q2⟩
   replace hkp := hkp.below q2
   have bw2 := bw1.trans (q2.mono bw1.size)
   have lw2 := q2.size
   clear q2 bw1
   go_wp2_with fail
   go_ret
   exact ⟨rfl, bw2⟩
  ·obtain ⟨hlt, hst⟩ := tw_step (p := isDg) (s := s) (i := j) rfl (by rw [hd]; exact hg)
   have hw2 : Hid (j + 1 + ((s.drop (j + 1)).takeWhile isDg).length = v) := Lib.hid (by rw [← hw.out, hst]; omega)
   clear hst
   go_wp2_with fail
   (with_reducible refine (r_at _ (s) (j) d hd).mono ?_); rintro e w1 ⟨rfl, q1⟩
   replace hkp := hkp.below q1
   have bw1 := hbw.trans (q1.mono hbw.size)
   have lw1 := q1.size
   clear q1
   go_wp2_with fail
   (with_reducible refine (r_digit _ d true hg).mono ?_); rintro e w2 ⟨rfl, q2⟩
   replace hkp := hkp.below q2
   have bw2 := bw1.trans (q2.mono bw1.size)
   have lw2 := q2.size
   clear q2 bw1
   go_wp2_with fail
   go_roundw
   case rel => exact ⟨j + 1, by go_num, by omega, hw2, hkp, bw2, by omega⟩
   case measure => simp [intOf]; omega
theorem r_at_x (w : World) (s : List UInt8) (x : Int) (i : Nat) (hx : x = ((i : Nat) : Int)) (d : UInt8) (hd : atB s i = d) : Calls Tryz.prog 40 #[strV s, .int .i64 x] w (RetV w (.int .u8 (d.toNat : Nat))) := by
  subst hx
  exact r_at w s i d hd
theorem r_digitsEnd_x (w : World) (s : List UInt8) (x : Int) (i : Nat) (hx : x = ((i : Nat) : Int)) (hi : i ≤ s.length) (hs : s.length < 4611686018427387904) (y : Int) (hy : ((i + digN (s.drop i) : Nat) : Int) = y) : Calls Tryz.prog 38 #[strV s, .int .i64 x] w (RetV w (.int .i64 y)) := by
  subst hx hy
  exact r_digitsEnd w s i hi hs _ rfl
theorem r_wordEnd_x (w : World) (s : List UInt8) (x : Int) (i : Nat) (hx : x = ((i : Nat) : Int)) (hi : i ≤ s.length) (hs : s.length < 4611686018427387904) (y : Int) (hy : ((i + wordN (s.drop i) : Nat) : Int) = y) : Calls Tryz.prog 46 #[strV s, .int .i64 x] w (RetV w (.int .i64 y)) := by
  subst hx hy
  exact r_wordEnd w s i hi hs _ rfl
end Go.Proofs.YtfbigmdpdcpkfaaGreatDoor

namespace Go.Proofs.YtfbigmdpdcpkfaaGreatDoor
open Go Go.RowKit Bn

theorem b_num_nil (w : World) : Calls Tryz.prog 13 #[.nilIface] w (RetV w (.int .i64 0)) := by
 go_enter Tryz.func13, Tryz.ntmps13
 go_wp2
 go_ret
 exact ⟨rfl, brefl w⟩
theorem run_as_err (x : Int) (w : World) : (Instr.typeAssert (.iface 53 (.int .i64 x)) 25 53 true).run Tryz.prog w = .ok (.tuple #[.int .i64 x, .bool true]) w := by
  simp [Instr.typeAssert, run_underlying Tryz.underlying53]
theorem b_num_err (w : World) (x : Int) : Calls Tryz.prog 13 #[.iface 53 (.int .i64 x)] w (RetV w (.int .i64 x)) := by
 go_enter Tryz.func13, Tryz.ntmps13
 have hr := run_as_err x
 go_wp2
 go_ret
 exact ⟨rfl, brefl w⟩
end Go.Proofs.YtfbigmdpdcpkfaaGreatDoor

namespace Go.Proofs.YtfbigmdpdcpkfaaGreatDoor
open Go Go.RowKit Bn
attribute [local go_sem ↓] Go.wp_at_zero Go.wp_at_succ
theorem b_num_v (w : World) (x : Int) : Calls Tryz.prog 13 #[errV x] w (RetV w (.int .i64 x)) := by
  unfold errV
  split
  · rename_i h; subst h; exact b_num_nil w
  · exact b_num_err w x
end Go.Proofs.YtfbigmdpdcpkfaaGreatDoor

namespace Go.Proofs.YtfbigmdpdcpkfaaGreatDoor
open Go Go.RowKit Bn
attribute [local go_sem ↓] Go.wp_at_zero Go.wp_at_succ
theorem r_numberEnd (w : World) (s : List UInt8) (x : Int) (i : Nat) (hx : x = ((i : Nat) : Int)) (hi : i ≤ s.length) (hs : s.length < 4611686018427387904) (y : Int) (hy : ((i + numN (s.drop i) : Nat) : Int) = y) : Calls Tryz.prog 37 #[strV s, .int .i64 x] w (RetV w (.int .i64 y)) := by
 obtain ⟨v, hv⟩ : ∃ v, numN (s.drop i) = v := ⟨_, rfl⟩
 rw [hv] at hy
 subst hx
 obtain ⟨m, k, hm, hk, hc⟩ := num_cases hv
 clear hv
 rcases hm with ⟨rfl, ham⟩ | ⟨rfl, ham⟩
 ·have h0d : i < s.length := atB_in ham (by decide)
  obtain ⟨d0, hd0⟩ : ∃ d0, atB s i = d0 := ⟨_, rfl⟩
  rw [hd0] at ham
  have e45 : (((d0.toNat : Nat) : Int) == 45) = true := (byte_eq d0 45).trans (by simp [ham])
  have hwi : IntKind.i64.wrap ((i : Int) + 1) = (i : Int) + 1 := IntWalk.i64_in _ ⟨by omega, by omega⟩
  clear ham
  rcases hc with ⟨hk0, hv0⟩ | ⟨hkp, d, hd, hc⟩
  ·subst hv0
   subst hk0
   have hk7 : ((((i : Int) + 1) : Int) == ((i : Int) + 1 : Int)) = true := by simp
   go_enter Tryz.func37, Tryz.ntmps37
   go_wp2_with fail
   (with_reducible refine (r_at_x _ (s) ((i : Int)) (i) (by omega) d0 hd0).mono ?_); rintro e w1 ⟨rfl, q1⟩
   have bw1 := (brefl w).trans (q1.mono (brefl w).size)
   have lw1 := q1.size
   clear q1
   go_wp2_with fail
   (with_reducible refine (r_digitsEnd_x _ (s) (((i : Int) + 1)) (i + 1) (by omega) (by omega) hs ((i : Int) + 1) (by have h9 := hk; omega)).mono ?_); rintro e w2 ⟨rfl, q2⟩
   have bw2 := bw1.trans (q2.mono bw1.size)
   have lw2 := q2.size
   clear q2 bw1
   go_wp2_with fail
   go_ret
   exact retI (by rw [← hy]; omega) bw2
  ·have hle : i + 1 + k ≤ s.length := by have := digN_drop hk hkp; omega
   have hk9 : ((k : Int) == 0) = false := by simp; omega
   have hk8 : ((k : Int) = 0) = False := by simp; omega
   have hk7 : (((i : Int) + 1 + (k : Int) : Int) == ((i : Int) + 1 : Int)) = false := by simp; omega
   rcases hc with ⟨hd1, hd2, hv9⟩ | ⟨hdd, t, ht, hc⟩
   ·have e46 : (((d.toNat : Nat) : Int) == 46) = false := (byte_eq d 46).trans (by simp [hd1])
    have e47 : (((d.toNat : Nat) : Int) == 47) = false := (byte_eq d 47).trans (by simp [hd2])
    clear hd1 hd2
    replace hv9 := hv9.symm
    subst hv9
    have hwe : IntKind.i64.wrap ((i : Int) + 1 + (k : Int)) = (i : Int) + 1 + (k : Int) := IntWalk.i64_in _ ⟨by omega, by omega⟩
    go_enter Tryz.func37, Tryz.ntmps37
    go_wp2_with fail
    (with_reducible refine (r_at_x _ (s) ((i : Int)) (i) (by omega) d0 hd0).mono ?_); rintro e w1 ⟨rfl, q1⟩
    have bw1 := (brefl w).trans (q1.mono (brefl w).size)
    have lw1 := q1.size
    clear q1
    go_wp2_with fail
    (with_reducible refine (r_digitsEnd_x _ (s) (((i : Int) + 1)) (i + 1) (by omega) (by omega) hs ((i : Int) + 1 + (k : Int)) (by have h9 := hk; omega)).mono ?_); rintro e w2 ⟨rfl, q2⟩
    have bw2 := bw1.trans (q2.mono bw1.size)
    have lw2 := q2.size
    clear q2 bw1
    go_wp2_with fail
    (with_reducible refine (r_at_x _ (s) (((i : Int) + 1 + (k : Int))) (i + 1 + k) (by omega) d hd).mono ?_); rintro e w3 ⟨rfl, q3⟩
    have bw3 := bw2.trans (q3.mono bw2.size)
    have lw3 := q3.size
    clear q3 bw2
    go_wp2_with fail
    (with_reducible refine (r_at_x _ (s) (((i : Int) + 1 + (k : Int))) (i + 1 + k) (by omega) d hd).mono ?_); rintro e w4 ⟨rfl, q4⟩
    have bw4 := bw3.trans (q4.mono bw3.size)
    have lw4 := q4.size
    clear q4 bw3
    go_wp2_with fail
    go_ret
    exact retI (by rw [← hy]; omega) bw4
   ·have hl : i + 1 + k < s.length := by rcases hdd with e | e <;> exact atB_in hd (by rw [e]; decide)
    have hwe : IntKind.i64.wrap ((i : Int) + 1 + (k : Int)) = (i : Int) + 1 + (k : Int) := IntWalk.i64_in _ ⟨by omega, by omega⟩
    have hwe1 : IntKind.i64.wrap ((i : Int) + 1 + (k : Int) + 1) = (i : Int) + 1 + (k : Int) + 1 := IntWalk.i64_in _ ⟨by omega, by omega⟩
    rcases hdd with hd46 | hd47
    ·have e46 : (((d.toNat : Nat) : Int) == 46) = true := (byte_eq d 46).trans (by simp [hd46])
     clear hd46
     rcases hc with ⟨ht0, hv9⟩ | ⟨htp, hv9⟩
     ·replace hv9 := hv9.symm
      subst hv9
      subst ht0
      go_enter Tryz.func37, Tryz.ntmps37
      go_wp2_with fail
      (with_reducible refine (r_at_x _ (s) ((i : Int)) (i) (by omega) d0 hd0).mono ?_); rintro e w1 ⟨rfl, q1⟩
      have bw1 := (brefl w).trans (q1.mono (brefl w).size)
      have lw1 := q1.size
      clear q1
      go_wp2_with fail
      (with_reducible refine (r_digitsEnd_x _ (s) (((i : Int) + 1)) (i + 1) (by omega) (by omega) hs ((i : Int) + 1 + (k : Int)) (by have h9 := hk; omega)).mono ?_); rintro e w2 ⟨rfl, q2⟩
      have bw2 := bw1.trans (q2.mono bw1.size)
      have lw2 := q2.size
      clear q2 bw1
      go_wp2_with fail
      (with_reducible refine (r_at_x _ (s) (((i : Int) + 1 + (k : Int))) (i + 1 + k) (by omega) d hd).mono ?_); rintro e w3 ⟨rfl, q3⟩
      have bw3 := bw2.trans (q3.mono bw2.size)
      have lw3 := q3.size
      clear q3 bw2
      go_wp2_with fail
      (with_reducible refine (r_digitsEnd_x _ (s) (((i : Int) + 1 + (k : Int) + 1)) (i + 1 + k + 1) (by omega) (by omega) hs ((i : Int) + 1 + (k : Int) + 1) (by have h9 := ht; omega)).mono ?_); rintro e w4 ⟨rfl, q4⟩
      have bw4 := bw3.trans (q4.mono bw3.size)
      have lw4 := q4.size
      clear q4 bw3
      go_wp2_with fail
      go_ret
      exact retI (by rw [← hy]; omega) bw4
     ·replace hv9 := hv9.symm
      subst hv9
      have ht9 : ((0 : Int) < (t : Int)) = True := by simp; omega
      have htl : i + 1 + k + 1 + t ≤ s.length := by have := digN_drop ht htp; omega
      have ht8 : ((i : Int) + 1 + (k : Int) + 1 < (i : Int) + 1 + (k : Int) + 1 + (t : Int)) = True := by simp; omega
      go_enter Tryz.func37, Tryz.ntmps37
      go_wp2_with fail
      (with_reducible refine (r_at_x _ (s) ((i : Int)) (i) (by omega) d0 hd0).mono ?_); rintro e w1 ⟨rfl, q1⟩
      have bw1 := (brefl w).trans (q1.mono (brefl w).size)
      have lw1 := q1.size
      clear q1
      go_wp2_with fail
      (with_reducible refine (r_digitsEnd_x _ (s) (((i : Int) + 1)) (i + 1) (by omega) (by omega) hs ((i : Int) + 1 + (k : Int)) (by have h9 := hk; omega)).mono ?_); rintro e w2 ⟨rfl, q2⟩
      have bw2 := bw1.trans (q2.mono bw1.size)
      have lw2 := q2.size
      clear q2 bw1
      go_wp2_with fail
      (with_reducible refine (r_at_x _ (s) (((i : Int) + 1 + (k : Int))) (i + 1 + k) (by omega) d hd).mono ?_); rintro e w3 ⟨rfl, q3⟩
      have bw3 := bw2.trans (q3.mono bw2.size)
      have lw3 := q3.size
      clear q3 bw2
      go_wp2_with fail
      (with_reducible refine (r_digitsEnd_x _ (s) (((i : Int) + 1 + (k : Int) + 1)) (i + 1 + k + 1) (by omega) (by omega) hs ((i : Int) + 1 + (k : Int) + 1 + (t : Int)) (by have h9 := ht; omega)).mono ?_); rintro e w4 ⟨rfl, q4⟩
      have bw4 := bw3.trans (q4.mono bw3.size)
      have lw4 := q4.size
      clear q4 bw3
      go_wp2_with fail
      go_ret
      exact retI (by rw [← hy]; omega) bw4
    ·have e46 : (((d.toNat : Nat) : Int) == 46) = false := (byte_eq d 46).trans (by simp [hd47])
     have e47 : (((d.toNat : Nat) : Int) == 47) = true := (byte_eq d 47).trans (by simp [hd47])
     clear hd47
     rcases hc with ⟨ht0, hv9⟩ | ⟨htp, hv9⟩
     ·replace hv9 := hv9.symm
      subst hv9
      subst ht0
      go_enter Tryz.func37, Tryz.ntmps37
      go_wp2_with fail
      (with_reducible refine (r_at_x _ (s) ((i : Int)) (i) (by omega) d0 hd0).mono ?_); rintro e w1 ⟨rfl, q1⟩
      have bw1 := (brefl w).trans (q1.mono (brefl w).size)
      have lw1 := q1.size
      clear q1
      go_wp2_with fail
      (with_reducible refine (r_digitsEnd_x _ (s) (((i : Int) + 1)) (i + 1) (by omega) (by omega) hs ((i : Int) + 1 + (k : Int)) (by have h9 := hk; omega)).mono ?_); rintro e w2 ⟨rfl, q2⟩
      have bw2 := bw1.trans (q2.mono bw1.size)
      have lw2 := q2.size
      clear q2 bw1
      go_wp2_with fail
      (with_reducible refine (r_at_x _ (s) (((i : Int) + 1 + (k : Int))) (i + 1 + k) (by omega) d hd).mono ?_); rintro e w3 ⟨rfl, q3⟩
      have bw3 := bw2.trans (q3.mono bw2.size)
      have lw3 := q3.size
      clear q3 bw2
      go_wp2_with fail
      (with_reducible refine (r_at_x _ (s) (((i : Int) + 1 + (k : Int))) (i + 1 + k) (by omega) d hd).mono ?_); rintro e w4 ⟨rfl, q4⟩
      have bw4 := bw3.trans (q4.mono bw3.size)
      have lw4 := q4.size
      clear q4 bw3
      go_wp2_with fail
      (with_reducible refine (r_digitsEnd_x _ (s) (((i : Int) + 1 + (k : Int) + 1)) (i + 1 + k + 1) (by omega) (by omega) hs ((i : Int) + 1 + (k : Int) + 1) (by have h9 := ht; omega)).mono ?_); rintro e w5 ⟨rfl, q5⟩
      have bw5 := bw4.trans (q5.mono bw4.size)
      have lw5 := q5.size
      clear q5 bw4
      go_wp2_with fail
      go_ret
      exact retI (by rw [← hy]; omega) bw5
     ·replace hv9 := hv9.symm
      subst hv9
      have ht9 : ((0 : Int) < (t : Int)) = True := by simp; omega
      have htl : i + 1 + k + 1 + t ≤ s.length := by have := digN_drop ht htp; omega
      have ht8 : ((i : Int) + 1 + (k : Int) + 1 < (i : Int) + 1 + (k : Int) + 1 + (t : Int)) = True := by simp; omega
      go_enter Tryz.func37, Tryz.ntmps37
      go_wp2_with fail
      (with_reducible refine (r_at_x _ (s) ((i : Int)) (i) (by omega) d0 hd0).mono ?_); rintro e w1 ⟨rfl, q1⟩
      have bw1 := (brefl w).trans (q1.mono (brefl w).size)
      have lw1 := q1.size
      clear q1
      go_wp2_with fail
      (with_reducible refine (r_digitsEnd_x _ (s) (((i : Int) + 1)) (i + 1) (by omega) (by omega) hs ((i : Int) + 1 + (k : Int)) (by have h9 := hk; omega)).mono ?_); rintro e w2 ⟨rfl, q2⟩
      have bw2 := bw1.trans (q2.mono bw1.size)
      have lw2 := q2.size
      clear q2 bw1
      go_wp2_with fail
      (with_reducible refine (r_at_x _ (s) (((i : Int) + 1 + (k : Int))) (i + 1 + k) (by omega) d hd).mono ?_); rintro e w3 ⟨rfl, q3⟩
      have bw3 := bw2.trans (q3.mono bw2.size)
      have lw3 := q3.size
      clear q3 bw2
      go_wp2_with fail
      (with_reducible refine (r_at_x _ (s) (((i : Int) + 1 + (k : Int))) (i + 1 + k) (by omega) d hd).mono ?_); rintro e w4 ⟨rfl, q4⟩
      have bw4 := bw3.trans (q4.mono bw3.size)
      have lw4 := q4.size
      clear q4 bw3
      go_wp2_with fail
      (with_reducible refine (r_digitsEnd_x _ (s) (((i : Int) + 1 + (k : Int) + 1)) (i + 1 + k + 1) (by omega) (by omega) hs ((i : Int) + 1 + (k : Int) + 1 + (t : Int)) (by have h9 := ht; omega)).mono ?_); rintro e w5 ⟨rfl, q5⟩
      have bw5 := bw4.trans (q5.mono bw4.size)
      have lw5 := q5.size
      clear q5 bw4
      go_wp2_with fail
      go_ret
      exact retI (by rw [← hy]; omega) bw5
 ·simp only [Nat.add_zero] at hk hc
  obtain ⟨d0, hd0⟩ : ∃ d0, atB s i = d0 := ⟨_, rfl⟩
  rw [hd0] at ham
  have e45 : (((d0.toNat : Nat) : Int) == 45) = false := (byte_eq d0 45).trans (by simp [ham])
  clear ham
  rcases hc with ⟨hk0, hv0⟩ | ⟨hkp, d, hd, hc⟩
  ·subst hv0
   subst hk0
   have hk7 : ((((i : Int)) : Int) == ((i : Int) : Int)) = true := by simp
   go_enter Tryz.func37, Tryz.ntmps37
   go_wp2_with fail
   (with_reducible refine (r_at_x _ (s) ((i : Int)) (i) (by omega) d0 hd0).mono ?_); rintro e w1 ⟨rfl, q1⟩
   have bw1 := (brefl w).trans (q1.mono (brefl w).size)
   have lw1 := q1.size
   clear q1
   go_wp2_with fail
   (with_reducible refine (r_digitsEnd_x _ (s) (((i : Int))) (i) (by omega) (by omega) hs ((i : Int)) (by have h9 := hk; omega)).mono ?_); rintro e w2 ⟨rfl, q2⟩
   have bw2 := bw1.trans (q2.mono bw1.size)
   have lw2 := q2.size
   clear q2 bw1
   go_wp2_with fail
   go_ret
   exact retI (by rw [← hy]; omega) bw2
  ·have hle : i + k ≤ s.length := by have := digN_drop hk hkp; omega
   have hk9 : ((k : Int) == 0) = false := by simp; omega
   have hk8 : ((k : Int) = 0) = False := by simp; omega
   have hk7 : (((i : Int) + (k : Int) : Int) == ((i : Int) : Int)) = false := by simp; omega
   rcases hc with ⟨hd1, hd2, hv9⟩ | ⟨hdd, t, ht, hc⟩
   ·have e46 : (((d.toNat : Nat) : Int) == 46) = false := (byte_eq d 46).trans (by simp [hd1])
    have e47 : (((d.toNat : Nat) : Int) == 47) = false := (byte_eq d 47).trans (by simp [hd2])
    clear hd1 hd2
    replace hv9 := hv9.symm
    subst hv9
    have hwe : IntKind.i64.wrap ((i : Int) + (k : Int)) = (i : Int) + (k : Int) := IntWalk.i64_in _ ⟨by omega, by omega⟩
    go_enter Tryz.func37, Tryz.ntmps37
    go_wp2_with fail
    (with_reducible refine (r_at_x _ (s) ((i : Int)) (i) (by omega) d0 hd0).mono ?_); rintro e w1 ⟨rfl, q1⟩
    have bw1 := (brefl w).trans (q1.mono (brefl w).size)
    have lw1 := q1.size
    clear q1
    go_wp2_with fail
    (with_reducible refine (r_digitsEnd_x _ (s) (((i : Int))) (i) (by omega) (by omega) hs ((i : Int) + (k : Int)) (by have h9 := hk; omega)).mono ?_); rintro e w2 ⟨rfl, q2⟩
    have bw2 := bw1.trans (q2.mono bw1.size)
    have lw2 := q2.size
    clear q2 bw1
    go_wp2_with fail
    (with_reducible refine (r_at_x _ (s) (((i : Int) + (k : Int))) (i + k) (by omega) d hd).mono ?_); rintro e w3 ⟨rfl, q3⟩
    have bw3 := bw2.trans (q3.mono bw2.size)
    have lw3 := q3.size
    clear q3 bw2
    go_wp2_with fail
    (with_reducible refine (r_at_x _ (s) (((i : Int) + (k : Int))) (i + k) (by omega) d hd).mono ?_); rintro e w4 ⟨rfl, q4⟩
    have bw4 := bw3.trans (q4.mono bw3.size)
    have lw4 := q4.size
    clear q4 bw3
    go_wp2_with fail
    go_ret
    exact retI (by rw [← hy]; omega) bw4
   ·have hl : i + k < s.length := by rcases hdd with e | e <;> exact atB_in hd (by rw [e]; decide)
    have hwe : IntKind.i64.wrap ((i : Int) + (k : Int)) = (i : Int) + (k : Int) := IntWalk.i64_in _ ⟨by omega, by omega⟩
    have hwe1 : IntKind.i64.wrap ((i : Int) + (k : Int) + 1) = (i : Int) + (k : Int) + 1 := IntWalk.i64_in _ ⟨by omega, by omega⟩
    rcases hdd with hd46 | hd47
    ·have e46 : (((d.toNat : Nat) : Int) == 46) = true := (byte_eq d 46).trans (by simp [hd46])
     clear hd46
     rcases hc with ⟨ht0, hv9⟩ | ⟨htp, hv9⟩
     ·replace hv9 := hv9.symm
      subst hv9
      subst ht0
      go_enter Tryz.func37, Tryz.ntmps37
      go_wp2_with fail
      (with_reducible refine (r_at_x _ (s) ((i : Int)) (i) (by omega) d0 hd0).mono ?_); rintro e w1 ⟨rfl, q1⟩
      have bw1 := (brefl w).trans (q1.mono (brefl w).size)
      have lw1 := q1.size
      clear q1
      go_wp2_with fail
      (with_reducible refine (r_digitsEnd_x _ (s) (((i : Int))) (i) (by omega) (by omega) hs ((i : Int) + (k : Int)) (by have h9 := hk; omega)).mono ?_); rintro e w2 ⟨rfl, q2⟩
      have bw2 := bw1.trans (q2.mono bw1.size)
      have lw2 := q2.size
      clear q2 bw1
      go_wp2_with fail
      (with_reducible refine (r_at_x _ (s) (((i : Int) + (k : Int))) (i + k) (by omega) d hd).mono ?_); rintro e w3 ⟨rfl, q3⟩
      have bw3 := bw2.trans (q3.mono bw2.size)
      have lw3 := q3.size
      clear q3 bw2
      go_wp2_with fail
      (with_reducible refine (r_digitsEnd_x _ (s) (((i : Int) + (k : Int) + 1)) (i + k + 1) (by omega) (by omega) hs ((i : Int) + (k : Int) + 1) (by have h9 := ht; omega)).mono ?_); rintro e w4 ⟨rfl, q4⟩
      have bw4 := bw3.trans (q4.mono bw3.size)
      have lw4 := q4.size
      clear q4 bw3
      go_wp2_with fail
      go_ret
      exact retI (by rw [← hy]; omega) bw4
     ·replace hv9 := hv9.symm
      subst hv9
      have ht9 : ((0 : Int) < (t : Int)) = True := by simp; omega
      have htl : i + k + 1 + t ≤ s.length := by have := digN_drop ht htp; omega
      have ht8 : ((i : Int) + (k : Int) + 1 < (i : Int) + (k : Int) + 1 + (t : Int)) = True := by simp; omega
      go_enter Tryz.func37, Tryz.ntmps37
      go_wp2_with fail
      (with_reducible refine (r_at_x _ (s) ((i : Int)) (i) (by omega) d0 hd0).mono ?_); rintro e w1 ⟨rfl, q1⟩
      have bw1 := (brefl w).trans (q1.mono (brefl w).size)
      have lw1 := q1.size
      clear q1
      go_wp2_with fail
      (with_reducible refine (r_digitsEnd_x _ (s) (((i : Int))) (i) (by omega) (by omega) hs ((i : Int) + (k : Int)) (by have h9 := hk; omega)).mono ?_); rintro e w2 ⟨rfl, q2⟩
      have bw2 := bw1.trans (q2.mono bw1.size)
      have lw2 := q2.size
      clear q2 bw1
      go_wp2_with fail
      (with_reducible refine (r_at_x _ (s) (((i : Int) + (k : Int))) (i + k) (by omega) d hd).mono ?_); rintro e w3 ⟨rfl, q3⟩
      have bw3 := bw2.trans (q3.mono bw2.size)
      have lw3 := q3.size
      clear q3 bw2
      go_wp2_with fail
      (with_reducible refine (r_digitsEnd_x _ (s) (((i : Int) + (k : Int) + 1)) (i + k + 1) (by omega) (by omega) hs ((i : Int) + (k : Int) + 1 + (t : Int)) (by have h9 := ht; omega)).mono ?_); rintro e w4 ⟨rfl, q4⟩
      have bw4 := bw3.trans (q4.mono bw3.size)
      have lw4 := q4.size
      clear q4 bw3
      go_wp2_with fail
      go_ret
      exact retI (by rw [← hy]; omega) bw4
    ·have e46 : (((d.toNat : Nat) : Int) == 46) = false := (byte_eq d 46).trans (by simp [hd47])
     have e47 : (((d.toNat : Nat) : Int) == 47) = true := (byte_eq d 47).trans (by simp [hd47])
     clear hd47
     rcases hc with ⟨ht0, hv9⟩ | ⟨htp, hv9⟩
     ·replace hv9 := hv9.symm
      subst hv9
      subst ht0
      go_enter Tryz.func37, Tryz.ntmps37
      go_wp2_with fail
      (with_reducible refine (r_at_x _ (s) ((i : Int)) (i) (by omega) d0 hd0).mono ?_); rintro e w1 ⟨rfl, q1⟩
      have bw1 := (brefl w).trans (q1.mono (brefl w).size)
      have lw1 := q1.size
      clear q1
      go_wp2_with fail
      (with_reducible refine (r_digitsEnd_x _ (s) (((i : Int))) (i) (by omega) (by omega) hs ((i : Int) + (k : Int)) (by have h9 := hk; omega)).mono ?_); rintro e w2 ⟨rfl, q2⟩
      have bw2 := bw1.trans (q2.mono bw1.size)
      have lw2 := q2.size
      clear q2 bw1
      go_wp2_with fail
      (with_reducible refine (r_at_x _ (s) (((i : Int) + (k : Int))) (i + k) (by omega) d hd).mono ?_); rintro e w3 ⟨rfl, q3⟩
      have bw3 := bw2.trans (q3.mono bw2.size)
      have lw3 := q3.size
      clear q3 bw2
      go_wp2_with fail
      (with_reducible refine (r_at_x _ (s) (((i : Int) + (k : Int))) (i + k) (by omega) d hd).mono ?_); rintro e w4 ⟨rfl, q4⟩
      have bw4 := bw3.trans (q4.mono bw3.size)
      have lw4 := q4.size
      clear q4 bw3
      go_wp2_with fail
      (with_reducible refine (r_digitsEnd_x _ (s) (((i : Int) + (k : Int) + 1)) (i + k + 1) (by omega) (by omega) hs ((i : Int) + (k : Int) + 1) (by have h9 := ht; omega)).mono ?_); rintro e w5 ⟨rfl, q5⟩
      have bw5 := bw4.trans (q5.mono bw4.size)
      have lw5 := q5.size
      clear q5 bw4
      go_wp2_with fail
      go_ret
      exact retI (by rw [← hy]; omega) bw5
     ·replace hv9 := hv9.symm
      subst hv9
      have ht9 : ((0 : Int) < (t : Int)) = True := by simp; omega
      have htl : i + k + 1 + t ≤ s.length := by have := digN_drop ht htp; omega
      have ht8 : ((i : Int) + (k : Int) + 1 < (i : Int) + (k : Int) + 1 + (t : Int)) = True := by simp; omega
      go_enter Tryz.func37, Tryz.ntmps37
      go_wp2_with fail
      (with_reducible refine (r_at_x _ (s) ((i : Int)) (i) (by omega) d0 hd0).mono ?_); rintro e w1 ⟨rfl, q1⟩
      have bw1 := (brefl w).trans (q1.mono (brefl w).size)
      have lw1 := q1.size
      clear q1
      go_wp2_with fail
      (with_reducible refine (r_digitsEnd_x _ (s) (((i : Int))) (i) (by omega) (by omega) hs ((i : Int) + (k : Int)) (by have h9 := hk; omega)).mono ?_); rintro e w2 ⟨rfl, q2⟩
      have bw2 := bw1.trans (q2.mono bw1.size)
      have lw2 := q2.size
      clear q2 bw1
      go_wp2_with fail
      (with_reducible refine (r_at_x _ (s) (((i : Int) + (k : Int))) (i + k) (by omega) d hd).mono ?_); rintro e w3 ⟨rfl, q3⟩
      have bw3 := bw2.trans (q3.mono bw2.size)
      have lw3 := q3.size
      clear q3 bw2
      go_wp2_with fail
      (with_reducible refine (r_at_x _ (s) (((i : Int) + (k : Int))) (i + k) (by omega) d hd).mono ?_); rintro e w4 ⟨rfl, q4⟩
      have bw4 := bw3.trans (q4.mono bw3.size)
      have lw4 := q4.size
      clear q4 bw3
      go_wp2_with fail
      (with_reducible refine (r_digitsEnd_x _ (s) (((i : Int) + (k : Int) + 1)) (i + k + 1) (by omega) (by omega) hs ((i : Int) + (k : Int) + 1 + (t : Int)) (by have h9 := ht; omega)).mono ?_); rintro e w5 ⟨rfl, q5⟩
      have bw5 := bw4.trans (q5.mono bw4.size)
      have lw5 := q5.size
      clear q5 bw4
      go_wp2_with fail
      go_ret
      exact retI (by rw [← hy]; omega) bw5
end Go.Proofs.YtfbigmdpdcpkfaaGreatDoor

namespace Go.Proofs.YtfbigmdpdcpkfaaGreatDoor
open Go Go.RowKit Bn
attribute [local go_sem ↓] Go.wp_at_zero Go.wp_at_succ
def nextV (i : Nat) : First → Value
  | .ok k n => .tuple #[.int .i64 (k : Nat), .int .i64 ((i : Int) + (n : Nat)), .int .i64 0]
  | .err x => .tuple #[.int .i64 0, .int .i64 0, .int .i64 (x : Nat)]
theorem r_next (w : World) (s : List UInt8) (x : Int) (i : Nat) (hx : x = ((i : Nat) : Int)) (hi : i < s.length) (hs : s.length < 4611686018427387904) (f : First) (hf : firstT (s.drop i) = f) : Calls Tryz.prog 28 #[strV s, .int .i64 x] w (RetV w (nextV i f)) := by
 subst hx
 have hszs := size_v s
 obtain ⟨c, hc0, n, hwn, m, hnm, hnl, hml, hcs⟩ := first_cases (s := s) (i := i) hi hf
 clear hf
 have hget : ∀ h, (⟨s.toArray⟩ : ByteArray)[i]'h = c := fun h => by rw [← hc0]; exact (atB_lt hi).symm
 have hlts : i < s.length := hi
 clear hc0
 rcases hcs with ⟨hsg, hn0, hm0, rfl⟩ | ⟨hsg, hn1, rfl⟩ | ⟨hsg, hn1, hn2, rfl⟩ | ⟨hsg, hn0, hm0, rfl⟩ | ⟨hsg, hn0, hm1, rfl⟩ | ⟨hsg, hn0, hm1, hm2, d, hd, hc⟩
 ·have hwi : IntKind.i64.wrap ((i : Int) + 1) = (i : Int) + 1 := IntWalk.i64_in _ ⟨by omega, by omega⟩
  subst hn0
  subst hm0
  go_enter Tryz.func28, Tryz.ntmps28
  go_wp2_with fail
  (with_reducible refine (r_wordEnd_x _ (s) ((i : Int)) i rfl (by omega) hs ((i : Int)) (by have h9 := hwn; omega)).mono ?_); rintro e w1 ⟨rfl, q1⟩
  have bw1 := (brefl w).trans (q1.mono (brefl w).size)
  have lw1 := q1.size
  clear q1
  go_wp2_with fail
  (with_reducible refine (r_numberEnd _ (s) ((i : Int)) i rfl (by omega) hs ((i : Int)) (by have h9 := hnm; omega)).mono ?_); rintro e w2 ⟨rfl, q2⟩
  have bw2 := bw1.trans (q2.mono bw1.size)
  have lw2 := q2.size
  clear q2 bw1
  go_wp2_with fail
  (with_reducible refine (r_sign18 _ c true hsg).mono ?_); rintro e w3 ⟨rfl, q3⟩
  have bw3 := bw2.trans (q3.mono bw2.size)
  have lw3 := q3.size
  clear q3 bw2
  go_wp2_with fail
  refine bodyPost_ret (v := .tuple #[.int .i64 2, .int .i64 ((i : Int) + 1), .int .i64 0]) (by simp [results, Tryz.results28, go_sem, *] <;> first | rfl | exact ⟨rfl, rfl⟩) rfl ?_
  exact ⟨rfl, bw3⟩
 ·have hgt : ((i : Int) < (i : Int) + (n : Int)) = True := by simp; omega
  have hgp : ((0 : Int) < (n : Int)) = True := by simp; omega
  have hws : IntKind.i64.wrap ((i : Int) + (n : Int) - (i : Int)) = (n : Int) := by rw [show (i : Int) + (n : Int) - (i : Int) = (n : Int) by omega]; exact IntWalk.i64_in _ ⟨by omega, by omega⟩
  have hws2 : IntKind.i64.wrap (n : Int) = (n : Int) := IntWalk.i64_in _ ⟨by omega, by omega⟩
  have hg2 : ((24 : Int) < (n : Int)) = True := by simp; omega
  go_enter Tryz.func28, Tryz.ntmps28
  go_wp2_with fail
  (with_reducible refine (r_wordEnd_x _ (s) ((i : Int)) i rfl (by omega) hs ((i : Int) + (n : Int)) (by have h9 := hwn; omega)).mono ?_); rintro e w1 ⟨rfl, q1⟩
  have bw1 := (brefl w).trans (q1.mono (brefl w).size)
  have lw1 := q1.size
  clear q1
  go_wp2_with fail
  refine bodyPost_ret (v := .tuple #[.int .i64 0, .int .i64 0, .int .i64 5]) (by simp [results, Tryz.results28, go_sem, *] <;> first | rfl | exact ⟨rfl, rfl⟩) rfl ?_
  exact ⟨rfl, bw1⟩
 ·have hgt : ((i : Int) < (i : Int) + (n : Int)) = True := by simp; omega
  have hgp : ((0 : Int) < (n : Int)) = True := by simp; omega
  have hws : IntKind.i64.wrap ((i : Int) + (n : Int) - (i : Int)) = (n : Int) := by rw [show (i : Int) + (n : Int) - (i : Int) = (n : Int) by omega]; exact IntWalk.i64_in _ ⟨by omega, by omega⟩
  have hws2 : IntKind.i64.wrap (n : Int) = (n : Int) := IntWalk.i64_in _ ⟨by omega, by omega⟩
  have hg2 : ((24 : Int) < (n : Int)) = False := by simp; omega
  go_enter Tryz.func28, Tryz.ntmps28
  go_wp2_with fail
  (with_reducible refine (r_wordEnd_x _ (s) ((i : Int)) i rfl (by omega) hs ((i : Int) + (n : Int)) (by have h9 := hwn; omega)).mono ?_); rintro e w1 ⟨rfl, q1⟩
  have bw1 := (brefl w).trans (q1.mono (brefl w).size)
  have lw1 := q1.size
  clear q1
  go_wp2_with fail
  refine bodyPost_ret (v := .tuple #[.int .i64 0, .int .i64 ((i : Int) + (n : Int)), .int .i64 0]) (by simp [results, Tryz.results28, go_sem, *] <;> first | rfl | exact ⟨rfl, rfl⟩) rfl ?_
  exact ⟨rfl, bw1⟩
 ·subst hn0
  subst hm0
  go_enter Tryz.func28, Tryz.ntmps28
  go_wp2_with fail
  (with_reducible refine (r_wordEnd_x _ (s) ((i : Int)) i rfl (by omega) hs ((i : Int)) (by have h9 := hwn; omega)).mono ?_); rintro e w1 ⟨rfl, q1⟩
  have bw1 := (brefl w).trans (q1.mono (brefl w).size)
  have lw1 := q1.size
  clear q1
  go_wp2_with fail
  (with_reducible refine (r_numberEnd _ (s) ((i : Int)) i rfl (by omega) hs ((i : Int)) (by have h9 := hnm; omega)).mono ?_); rintro e w2 ⟨rfl, q2⟩
  have bw2 := bw1.trans (q2.mono bw1.size)
  have lw2 := q2.size
  clear q2 bw1
  go_wp2_with fail
  (with_reducible refine (r_sign18 _ c false hsg).mono ?_); rintro e w3 ⟨rfl, q3⟩
  have bw3 := bw2.trans (q3.mono bw2.size)
  have lw3 := q3.size
  clear q3 bw2
  go_wp2_with fail
  refine bodyPost_ret (v := .tuple #[.int .i64 0, .int .i64 0, .int .i64 2]) (by simp [results, Tryz.results28, go_sem, *] <;> first | rfl | exact ⟨rfl, rfl⟩) rfl ?_
  exact ⟨rfl, bw3⟩
 ·subst hn0
  have hgt : ((i : Int) < (i : Int) + (m : Int)) = True := by simp; omega
  have hgp : ((0 : Int) < (m : Int)) = True := by simp; omega
  have hws : IntKind.i64.wrap ((i : Int) + (m : Int) - (i : Int)) = (m : Int) := by rw [show (i : Int) + (m : Int) - (i : Int) = (m : Int) by omega]; exact IntWalk.i64_in _ ⟨by omega, by omega⟩
  have hws2 : IntKind.i64.wrap (m : Int) = (m : Int) := IntWalk.i64_in _ ⟨by omega, by omega⟩
  have hg2 : ((60 : Int) < (m : Int)) = True := by simp; omega
  go_enter Tryz.func28, Tryz.ntmps28
  go_wp2_with fail
  (with_reducible refine (r_wordEnd_x _ (s) ((i : Int)) i rfl (by omega) hs ((i : Int)) (by have h9 := hwn; omega)).mono ?_); rintro e w1 ⟨rfl, q1⟩
  have bw1 := (brefl w).trans (q1.mono (brefl w).size)
  have lw1 := q1.size
  clear q1
  go_wp2_with fail
  (with_reducible refine (r_numberEnd _ (s) ((i : Int)) i rfl (by omega) hs ((i : Int) + (m : Int)) (by have h9 := hnm; omega)).mono ?_); rintro e w2 ⟨rfl, q2⟩
  have bw2 := bw1.trans (q2.mono bw1.size)
  have lw2 := q2.size
  clear q2 bw1
  go_wp2_with fail
  refine bodyPost_ret (v := .tuple #[.int .i64 0, .int .i64 0, .int .i64 4]) (by simp [results, Tryz.results28, go_sem, *] <;> first | rfl | exact ⟨rfl, rfl⟩) rfl ?_
  exact ⟨rfl, bw2⟩
 ·subst hn0
  have hgt : ((i : Int) < (i : Int) + (m : Int)) = True := by simp; omega
  have hgp : ((0 : Int) < (m : Int)) = True := by simp; omega
  have hws : IntKind.i64.wrap ((i : Int) + (m : Int) - (i : Int)) = (m : Int) := by rw [show (i : Int) + (m : Int) - (i : Int) = (m : Int) by omega]; exact IntWalk.i64_in _ ⟨by omega, by omega⟩
  have hws2 : IntKind.i64.wrap (m : Int) = (m : Int) := IntWalk.i64_in _ ⟨by omega, by omega⟩
  have hg2 : ((60 : Int) < (m : Int)) = False := by simp; omega
  rcases hc with ⟨hl, rfl⟩ | ⟨hl, h95, rfl⟩ | ⟨hl, h46, rfl⟩ | ⟨hl, h47, rfl⟩ | ⟨hl, h95, h46, h47, rfl⟩
  ·skip
   go_enter Tryz.func28, Tryz.ntmps28
   go_wp2_with fail
   (with_reducible refine (r_wordEnd_x _ (s) ((i : Int)) i rfl (by omega) hs ((i : Int)) (by have h9 := hwn; omega)).mono ?_); rintro e w1 ⟨rfl, q1⟩
   have bw1 := (brefl w).trans (q1.mono (brefl w).size)
   have lw1 := q1.size
   clear q1
   go_wp2_with fail
   (with_reducible refine (r_numberEnd _ (s) ((i : Int)) i rfl (by omega) hs ((i : Int) + (m : Int)) (by have h9 := hnm; omega)).mono ?_); rintro e w2 ⟨rfl, q2⟩
   have bw2 := bw1.trans (q2.mono bw1.size)
   have lw2 := q2.size
   clear q2 bw1
   go_wp2_with fail
   (with_reducible refine (r_at_x _ (s) (((i : Int) + (m : Int))) (i + m) (by omega) d hd).mono ?_); rintro e w3 ⟨rfl, q3⟩
   have bw3 := bw2.trans (q3.mono bw2.size)
   have lw3 := q3.size
   clear q3 bw2
   go_wp2_with fail
   (with_reducible refine (r_letter _ d true hl).mono ?_); rintro e w4 ⟨rfl, q4⟩
   have bw4 := bw3.trans (q4.mono bw3.size)
   have lw4 := q4.size
   clear q4 bw3
   go_wp2_with fail
   refine bodyPost_ret (v := .tuple #[.int .i64 0, .int .i64 0, .int .i64 2]) (by simp [results, Tryz.results28, go_sem, *] <;> first | rfl | exact ⟨rfl, rfl⟩) rfl ?_
   exact ⟨rfl, bw4⟩
  ·have e95 : (((d.toNat : Nat) : Int) == 95) = true := (byte_eq d 95).trans (by simp [h95])
   clear h95
   go_enter Tryz.func28, Tryz.ntmps28
   go_wp2_with fail
   (with_reducible refine (r_wordEnd_x _ (s) ((i : Int)) i rfl (by omega) hs ((i : Int)) (by have h9 := hwn; omega)).mono ?_); rintro e w1 ⟨rfl, q1⟩
   have bw1 := (brefl w).trans (q1.mono (brefl w).size)
   have lw1 := q1.size
   clear q1
   go_wp2_with fail
   (with_reducible refine (r_numberEnd _ (s) ((i : Int)) i rfl (by omega) hs ((i : Int) + (m : Int)) (by have h9 := hnm; omega)).mono ?_); rintro e w2 ⟨rfl, q2⟩
   have bw2 := bw1.trans (q2.mono bw1.size)
   have lw2 := q2.size
   clear q2 bw1
   go_wp2_with fail
   (with_reducible refine (r_at_x _ (s) (((i : Int) + (m : Int))) (i + m) (by omega) d hd).mono ?_); rintro e w3 ⟨rfl, q3⟩
   have bw3 := bw2.trans (q3.mono bw2.size)
   have lw3 := q3.size
   clear q3 bw2
   go_wp2_with fail
   (with_reducible refine (r_letter _ d false hl).mono ?_); rintro e w4 ⟨rfl, q4⟩
   have bw4 := bw3.trans (q4.mono bw3.size)
   have lw4 := q4.size
   clear q4 bw3
   go_wp2_with fail
   refine bodyPost_ret (v := .tuple #[.int .i64 0, .int .i64 0, .int .i64 2]) (by simp [results, Tryz.results28, go_sem, *] <;> first | rfl | exact ⟨rfl, rfl⟩) rfl ?_
   exact ⟨rfl, bw4⟩
  ·have e95 : (((d.toNat : Nat) : Int) == 95) = false := (byte_eq d 95).trans (by simp [h46])
   have e46 : (((d.toNat : Nat) : Int) == 46) = true := (byte_eq d 46).trans (by simp [h46])
   clear h46
   go_enter Tryz.func28, Tryz.ntmps28
   go_wp2_with fail
   (with_reducible refine (r_wordEnd_x _ (s) ((i : Int)) i rfl (by omega) hs ((i : Int)) (by have h9 := hwn; omega)).mono ?_); rintro e w1 ⟨rfl, q1⟩
   have bw1 := (brefl w).trans (q1.mono (brefl w).size)
   have lw1 := q1.size
   clear q1
   go_wp2_with fail
   (with_reducible refine (r_numberEnd _ (s) ((i : Int)) i rfl (by omega) hs ((i : Int) + (m : Int)) (by have h9 := hnm; omega)).mono ?_); rintro e w2 ⟨rfl, q2⟩
   have bw2 := bw1.trans (q2.mono bw1.size)
   have lw2 := q2.size
   clear q2 bw1
   go_wp2_with fail
   (with_reducible refine (r_at_x _ (s) (((i : Int) + (m : Int))) (i + m) (by omega) d hd).mono ?_); rintro e w3 ⟨rfl, q3⟩
   have bw3 := bw2.trans (q3.mono bw2.size)
   have lw3 := q3.size
   clear q3 bw2
   go_wp2_with fail
   (with_reducible refine (r_letter _ d false hl).mono ?_); rintro e w4 ⟨rfl, q4⟩
   have bw4 := bw3.trans (q4.mono bw3.size)
   have lw4 := q4.size
   clear q4 bw3
   go_wp2_with fail
   refine bodyPost_ret (v := .tuple #[.int .i64 0, .int .i64 0, .int .i64 2]) (by simp [results, Tryz.results28, go_sem, *] <;> first | rfl | exact ⟨rfl, rfl⟩) rfl ?_
   exact ⟨rfl, bw4⟩
  ·have e95 : (((d.toNat : Nat) : Int) == 95) = false := (byte_eq d 95).trans (by simp [h47])
   have e46 : (((d.toNat : Nat) : Int) == 46) = false := (byte_eq d 46).trans (by simp [h47])
   have e47 : (((d.toNat : Nat) : Int) == 47) = true := (byte_eq d 47).trans (by simp [h47])
   clear h47
   go_enter Tryz.func28, Tryz.ntmps28
   go_wp2_with fail
   (with_reducible refine (r_wordEnd_x _ (s) ((i : Int)) i rfl (by omega) hs ((i : Int)) (by have h9 := hwn; omega)).mono ?_); rintro e w1 ⟨rfl, q1⟩
   have bw1 := (brefl w).trans (q1.mono (brefl w).size)
   have lw1 := q1.size
   clear q1
   go_wp2_with fail
   (with_reducible refine (r_numberEnd _ (s) ((i : Int)) i rfl (by omega) hs ((i : Int) + (m : Int)) (by have h9 := hnm; omega)).mono ?_); rintro e w2 ⟨rfl, q2⟩
   have bw2 := bw1.trans (q2.mono bw1.size)
   have lw2 := q2.size
   clear q2 bw1
   go_wp2_with fail
   (with_reducible refine (r_at_x _ (s) (((i : Int) + (m : Int))) (i + m) (by omega) d hd).mono ?_); rintro e w3 ⟨rfl, q3⟩
   have bw3 := bw2.trans (q3.mono bw2.size)
   have lw3 := q3.size
   clear q3 bw2
   go_wp2_with fail
   (with_reducible refine (r_letter _ d false hl).mono ?_); rintro e w4 ⟨rfl, q4⟩
   have bw4 := bw3.trans (q4.mono bw3.size)
   have lw4 := q4.size
   clear q4 bw3
   go_wp2_with fail
   refine bodyPost_ret (v := .tuple #[.int .i64 0, .int .i64 0, .int .i64 2]) (by simp [results, Tryz.results28, go_sem, *] <;> first | rfl | exact ⟨rfl, rfl⟩) rfl ?_
   exact ⟨rfl, bw4⟩
  ·have e95 : (((d.toNat : Nat) : Int) == 95) = false := (byte_eq d 95).trans (by simp [h95])
   have e46 : (((d.toNat : Nat) : Int) == 46) = false := (byte_eq d 46).trans (by simp [h46])
   have e47 : (((d.toNat : Nat) : Int) == 47) = false := (byte_eq d 47).trans (by simp [h47])
   clear h95 h46 h47
   go_enter Tryz.func28, Tryz.ntmps28
   go_wp2_with fail
   (with_reducible refine (r_wordEnd_x _ (s) ((i : Int)) i rfl (by omega) hs ((i : Int)) (by have h9 := hwn; omega)).mono ?_); rintro e w1 ⟨rfl, q1⟩
   have bw1 := (brefl w).trans (q1.mono (brefl w).size)
   have lw1 := q1.size
   clear q1
   go_wp2_with fail
   (with_reducible refine (r_numberEnd _ (s) ((i : Int)) i rfl (by omega) hs ((i : Int) + (m : Int)) (by have h9 := hnm; omega)).mono ?_); rintro e w2 ⟨rfl, q2⟩
   have bw2 := bw1.trans (q2.mono bw1.size)
   have lw2 := q2.size
   clear q2 bw1
   go_wp2_with fail
   (with_reducible refine (r_at_x _ (s) (((i : Int) + (m : Int))) (i + m) (by omega) d hd).mono ?_); rintro e w3 ⟨rfl, q3⟩
   have bw3 := bw2.trans (q3.mono bw2.size)
   have lw3 := q3.size
   clear q3 bw2
   go_wp2_with fail
   (with_reducible refine (r_letter _ d false hl).mono ?_); rintro e w4 ⟨rfl, q4⟩
   have bw4 := bw3.trans (q4.mono bw3.size)
   have lw4 := q4.size
   clear q4 bw3
   go_wp2_with fail
   refine bodyPost_ret (v := .tuple #[.int .i64 1, .int .i64 ((i : Int) + (m : Int)), .int .i64 0]) (by simp [results, Tryz.results28, go_sem, *] <;> first | rfl | exact ⟨rfl, rfl⟩) rfl ?_
   exact ⟨rfl, bw4⟩
end Go.Proofs.YtfbigmdpdcpkfaaGreatDoor

namespace Go.Proofs.YtfbigmdpdcpkfaaGreatDoor
open Go Go.RowKit Bn
attribute [local go_sem ↓] Go.wp_at_zero Go.wp_at_succ
theorem r_next_ok (w : World) (s : List UInt8) (i : Nat) (hi : i < s.length) (hs : s.length < 4611686018427387904) (k n : Nat) (hf : firstT (s.drop i) = .ok k n) : Calls Tryz.prog 28 #[strV s, .int .i64 (i : Nat)] w (RetV w (.tuple #[.int .i64 (k : Nat), .int .i64 ((i : Int) + (n : Nat)), .int .i64 0])) := r_next w s _ i rfl hi hs _ hf
theorem r_next_err (w : World) (s : List UInt8) (i : Nat) (hi : i < s.length) (hs : s.length < 4611686018427387904) (x : Nat) (hf : firstT (s.drop i) = .err x) : Calls Tryz.prog 28 #[strV s, .int .i64 (i : Nat)] w (RetV w (.tuple #[.int .i64 0, .int .i64 0, .int .i64 (x : Nat)])) := r_next w s _ i rfl hi hs _ hf
theorem r_split (w : World) (s : List UInt8) : Calls Tryz.prog 12 #[strV s] w (RetSp (fun x => .int .i64 x) w s) := by
 have hszs := size_v s
 obtain ⟨i0, hi0, hz0, hz1, hz2⟩ := info_parts info_tok
 rcases Nat.lt_or_ge 65536 s.length with hbig | hsm
 ·have hlen : ((65536 : Int) < (s.length : Int)) = True := by simp; omega
  clear hi0 hz0 hz1 hz2
  go_enter Tryz.func12, Tryz.ntmps12
  go_wp2_with fail
  refine bodyPost_ret (v := .tuple #[.slice none 0 0, .int .i64 4]) (by simp [results, Tryz.results12, go_sem, *] <;> first | rfl | exact ⟨rfl, rfl⟩) rfl ?_
  exact ⟨4, [], .big hbig rfl rfl, none, 0, 0, rfl, TkS.nil _, brefl w⟩
 have hlen : ((65536 : Int) < (s.length : Int)) = False := by simp; omega
 have hs : s.length < 4611686018427387904 := by omega
 have HI := Lib.hid (And.intro hi0 (And.intro hz0 (And.intro hz1 hz2)))
 clear hi0 hz0 hz1 hz2
 go_enter Tryz.func12, Tryz.ntmps12
 go_wp2_with fail
 go_loopw [4, 5, 6, 7] (fun ov lv sv iv wr => ∃ (done : List Tkn) (i line col : Nat), lv = .int .i64 (line : Nat) ∧ sv = .int .i64 (col : Nat) ∧ iv = .int .i64 (i : Nat) ∧ i ≤ s.length ∧ col ≤ i + 1 ∧ line ≤ i + 1 ∧ done.length ≤ i ∧ Hid (tokens s = pre done (tk (s.drop i) line col)) ∧ wr.ownsRow w.heap.size 34 4 ov done.length (tokCs done) ∧ Below w.heap.size w wr) (fun _ _ _ iv _ => s.length - (intOf iv).toNat)
 case atStart => exact ⟨[], 0, 1, 1, rfl, rfl, rfl, Nat.zero_le _, by omega, by omega, Nat.le_refl _, Lib.hid (by rw [pre_nil]; rfl), ⟨rfl, .inl ⟨rfl, rfl⟩⟩, brefl w⟩
 case round =>
  obtain ⟨done, i, line, col, rfl, rfl, rfl, hi, hco, hln, hdn, hT, hown, hbel⟩ := hrel
  have HO := Lib.hid hown
  clear hown
  rcases Nat.lt_or_ge i s.length with hl | hl
  ·have hi1 : ((i : Int) < (s.length : Int)) = True := by simp; omega
   have hlts : i < s.length := hl
   obtain ⟨c, hc⟩ : ∃ c, atB s i = c := ⟨_, rfl⟩
   have hget : ∀ h, (⟨s.toArray⟩ : ByteArray)[i]'h = c := fun h => by rw [← hc]; exact (atB_lt hl).symm
   by_cases h10 : c = 10
   ·have q10 : (((c.toNat : Nat) : Int) == 10) = true := (byte_eq c 10).trans (by simp [h10])
    have hT2 := tk_line_at hl (by rw [hc]; exact h10) line col
    have hb2 : isBlk2 c = true := by rw [h10]; rfl
    clear h10
    go_wp2_with fail
    (with_reducible refine (r_blank _ c true (by exact hb2)).mono ?_); rintro e w1 ⟨rfl, hb1⟩
    have HO2 := Lib.hid (own_below HO.out hb1)
    have hbel2 := hbel.trans (hb1.mono hbel.size)
    clear hb1
    go_wp2_with fail
    go_roundw
    case rel => exact ⟨done, i + 1, line + 1, 1, by go_num, rfl, by go_num, by omega, by omega, by omega, by omega, Lib.hid (by rw [hT.out, hT2]), HO2.out, hbel2⟩
    case measure => simp [intOf]; omega
   have q10 : (((c.toNat : Nat) : Int) == 10) = false := (byte_eq c 10).trans (by simp [h10])
   by_cases hbk : isBlk c = true
   ·have hT2 := tk_blank_at hl (by rw [hc]; exact hbk) line col
    have hb2 : isBlk2 c = true := by unfold isBlk at hbk; unfold isBlk2; rcases isBlk_3 (by unfold isBlk; exact hbk) with e | e | e <;> rw [e] <;> rfl
    go_wp2_with fail
    (with_reducible refine (r_blank _ c true (by exact hb2)).mono ?_); rintro e w1 ⟨rfl, hb1⟩
    have HO2 := Lib.hid (own_below HO.out hb1)
    have hbel2 := hbel.trans (hb1.mono hbel.size)
    clear hb1
    go_wp2_with fail
    go_roundw
    case rel => exact ⟨done, i + 1, line, col + 1, rfl, by go_num, by go_num, by omega, by omega, by omega, by omega, Lib.hid (by rw [hT.out, hT2]), HO2.out, hbel2⟩
    case measure => simp [intOf]; omega
   have hbk : isBlk c = false := by simpa using hbk
   have hb2 : isBlk2 c = false := by
    have a1 : c ≠ 32 := by rintro rfl; exact absurd hbk (by decide)
    have a2 : c ≠ 9 := by rintro rfl; exact absurd hbk (by decide)
    have a3 : c ≠ 13 := by rintro rfl; exact absurd hbk (by decide)
    unfold isBlk2; rw [beq_eq_false_iff_ne.2 a1, beq_eq_false_iff_ne.2 a2, beq_eq_false_iff_ne.2 a3, beq_eq_false_iff_ne.2 h10]; rfl
   by_cases h37 : c = 37
   ·have q37 : (((c.toNat : Nat) : Int) == 37) = true := (byte_eq c 37).trans (by simp [h37])
    obtain ⟨hcp, hT2⟩ := tk_com_at hl (by rw [hc]; exact h37) line col
    clear h37 hc
    go_wp2_with fail
    (with_reducible refine (r_blank _ c false (by exact hb2)).mono ?_); rintro e w1 ⟨rfl, hb1⟩
    have HO2 := Lib.hid (own_below HO.out hb1)
    have hbel2 := hbel.trans (hb1.mono hbel.size)
    clear hb1
    go_wp2_with fail
    clear q10 q37 hget h10 hbk hb2
    go_loopw [6, 7] (fun kv jv w2 => ∃ (j : Nat), kv = .int .i64 ((col + (j - i) : Nat) : Int) ∧ jv = .int .i64 (j : Nat) ∧ i ≤ j ∧ j ≤ s.length ∧ Hid (j + comN (s.drop j) = i + comN (s.drop i)) ∧ w1 = w2) (fun _ jv _ => s.length - (intOf jv).toNat)
    case atStart => exact ⟨i, by simp, rfl, Nat.le_refl _, hi, Lib.hid rfl, by first | rfl | trivial⟩
    case round =>
     obtain ⟨j, rfl, rfl, hij, hj, hcj, hw2⟩ := hrel
     subst hw2
     rcases Nat.lt_or_ge j s.length with hjl | hjl
     ·have hlj : j < s.length := hjl
      have hj1 : ((j : Int) < (s.length : Int)) = True := by simp; omega
      obtain ⟨d, hd⟩ : ∃ d, atB s j = d := ⟨_, rfl⟩
      have hget : ∀ h, (⟨s.toArray⟩ : ByteArray)[j]'h = d := fun h => by rw [← hd]; exact (atB_lt hjl).symm
      by_cases hd10 : d = 10
      ·have e10 : (((d.toNat : Nat) : Int) == 10) = true := (byte_eq d 10).trans (by simp [hd10])
       have hst0 := comN_stop (s := s) (j := j) (.inr (by rw [hd]; exact hd10))
       have hjn : i + comN (s.drop i) = j := by have := hcj.out; omega
       clear hd hd10
       go_wp2_with fail
       go_roundw
       case rel => exact ⟨done, j, line, col + (j - i), rfl, rfl, rfl, hj, by omega, by omega, by omega, Lib.hid (by rw [hT.out, hT2, hjn, show comN (s.drop i) = j - i by have := hcj.out; omega]), HO2.out, hbel2⟩
       case measure => simp [intOf]; omega
      ·have e10 : (((d.toNat : Nat) : Int) == 10) = false := (byte_eq d 10).trans (by simp [hd10])
       have hst9 := comN_step hjl (by rw [hd]; exact hd10)
       clear hd hd10
       go_wp2_with fail
       go_roundw
       case rel => exact ⟨j + 1, by go_num, by go_num, by omega, by omega, Lib.hid (by have h9 := hcj.out; rw [hst9] at h9; omega), by first | rfl | trivial⟩
       case measure => simp [intOf]; omega
     ·have hj1 : ((j : Int) < (s.length : Int)) = False := by simp; omega
      have hst0 := comN_stop (s := s) (j := j) (.inl hjl)
      have hjn : i + comN (s.drop i) = j := by have := hcj.out; omega
      go_wp2_with fail
      go_roundw
      case rel => exact ⟨done, j, line, col + (j - i), rfl, rfl, rfl, hj, by omega, by omega, by omega, Lib.hid (by rw [hT.out, hT2, hjn, show comN (s.drop i) = j - i by have := hcj.out; omega]), HO2.out, hbel2⟩
      case measure => simp [intOf]; omega
   have q37 : (((c.toNat : Nat) : Int) == 37) = false := (byte_eq c 37).trans (by simp [h37])
   obtain ⟨r, hr⟩ : ∃ r, s.drop i = r := ⟨_, rfl⟩
   have hrl : r.length = s.length - i := by rw [← hr, List.length_drop]
   have e2 : (⟨s.toArray⟩ : ByteArray).extract i s.length = ⟨r.toArray⟩ := by
    rw [ext_v, hr, List.take_of_length_le (by omega)]
   have hi0 : (0 : Int) ≤ (i : Int) := by omega
   have hiL : (i : Int) ≤ (s.length : Int) := by omega
   cases hf : firstT (s.drop i) with
   | err x =>
    have hT2 := tk_err_at hl hf (by rw [hc]; exact h10) (by rw [hc]; exact hbk) (by rw [hc]; exact h37) line col
    have hx0 := firstT_errN hf
    have hx1 : ((x : Int) == 0) = false := by simp; omega
    go_wp2_with fail
    (with_reducible refine (r_blank _ c false (by exact hb2)).mono ?_); rintro e w1 ⟨rfl, hb1⟩
    have HO2 := Lib.hid (own_below HO.out hb1)
    have hbel2 := hbel.trans (hb1.mono hbel.size)
    clear hb1
    go_wp2_with fail
    (with_reducible refine (r_next_err _ s i hl hs x hf).mono ?_); rintro e w2 ⟨rfl, hb9⟩
    go_wp2_with fail
    refine bodyPost_ret (v := .tuple #[.slice none 0 0, .int .i64 (x : Nat)]) (by simp [results, Tryz.results12, go_sem, *] <;> first | rfl | exact ⟨rfl, rfl⟩) rfl ?_
    refine ⟨(x : Int), [], .err x hsm (by rw [hT.out, hT2]; rfl) rfl rfl, none, 0, 0, rfl, TkS.nil _, hbel2.trans (hb9.mono hbel2.size)⟩
   | ok k n =>
    have hfk := firstT_ok hf
    rw [List.length_drop] at hfk
    have hT2 := tk_tok_at hl hf line col
    obtain ⟨x, hx⟩ : ∃ x, (s.drop i).take n = x := ⟨_, rfl⟩
    rw [hx] at hT2
    have hwin : IntKind.i64.wrap ((i : Int) + (n : Int)) = (i : Int) + (n : Int) := IntWalk.i64_in _ ⟨by omega, by omega⟩
    have htn : ((i : Int) + (n : Int)).toNat = i + n := by omega
    have e3 : (⟨s.toArray⟩ : ByteArray).extract i (i + n) = ⟨x.toArray⟩ := by
     rw [ext_v, ← hx, show i + n - i = n by omega]
    have hn0 : (0 : Int) ≤ (i : Int) + (n : Int) := by omega
    have hn1 : (i : Int) + (n : Int) ≤ (s.length : Int) := by omega
    have hn2 : (i : Int) ≤ (i : Int) + (n : Int) := by omega
    have hws : IntKind.i64.wrap ((i : Int) + (n : Int) - (i : Int)) = (n : Int) := by rw [show (i : Int) + (n : Int) - (i : Int) = (n : Int) by omega]; exact IntWalk.i64_in _ ⟨by omega, by omega⟩
    have hws2 : IntKind.i64.wrap (n : Int) = (n : Int) := IntWalk.i64_in _ ⟨by omega, by omega⟩
    go_wp2_with fail
    (with_reducible refine (r_blank _ c false (by exact hb2)).mono ?_); rintro e w1 ⟨rfl, hb1⟩
    have HO2 := Lib.hid (own_below HO.out hb1)
    have hbel2 := hbel.trans (hb1.mono hbel.size)
    clear hb1
    go_wp2_with fail
    (with_reducible refine (r_next_ok _ s i hl hs k n hf).mono ?_); rintro e w2 ⟨rfl, hb9⟩
    have HO3 := Lib.hid (own_below HO2.out hb9)
    have hbel3 := hbel2.trans (hb9.mono hbel2.size)
    clear hb9
    go_wp2_with (at_builtin; refine wpList_append_lies _ rfl _ _ _ rfl w.heap.size 34 i0 (.agg #[.int .i64 0, .string ⟨#[]⟩, .int .i64 0, .int .i64 0]) 4 40 Tryz.underlying23 HI.out.1 HI.out.2.1 HI.out.2.2.1 HI.out.2.2.2 rfl (by omega) _ done.length (tokCs done) rfl (HO3.out.alloc _) ⟨w2.heap.size, 0, none⟩ 1 1 [_, _, _, _] rfl rfl (World.news_of_block (heap_alloc_new w2 _)) (by simp [Value.oneCell']) (by omega) (by unfold maxLen; omega) (by omega) (by have := hbel3.size; simp; omega) (w2.heap.size + 1) (by simp) ?_; intro gx cap w9 hown1 hgrow hat hlt1)
    go_roundw
    case rel =>
     refine ⟨done ++ [⟨k, x, line, col⟩], i + n, line, col + n, rfl, by go_num, by go_num, by omega, by omega, by omega, by rw [List.length_append, List.length_singleton]; omega, Lib.hid ?_, ?_, (hbel3.alloc hbel3.size _).grown hgrow (by have := hbel3.size; simp; omega) (own_base HO3.out)⟩
     ·rw [hT.out, hT2, pre_push]
     ·rw [tokCs_snoc, List.length_append, List.length_singleton]
      have e : ([.int .i64 (k : Nat), strV x, .int .i64 (line : Nat), .int .i64 (col : Nat)] : List Value) = tokC ⟨k, x, line, col⟩ := by unfold tokC; simp; try omega
      rw [← e]; exact hown1
    case measure => simp [intOf]; omega
  ·have hi1 : ((i : Int) < (s.length : Int)) = False := by simp; omega
   obtain rfl : i = s.length := by omega
   obtain ⟨A, cc, hv, hS⟩ := TkS.of_own HO.out
   subst hv
   go_wp2_with fail
   refine bodyPost_ret (v := .tuple #[.slice A done.length cc, .int .i64 0]) (by simp [results, Tryz.results12, go_sem, *] <;> first | rfl | exact ⟨rfl, rfl⟩) rfl ?_
   exact ⟨0, done, .ok hsm (by rw [hT.out, List.drop_length, tk_nil]; simp [pre]) rfl, A, done.length, cc, rfl, hS, hbel⟩
end Go.Proofs.YtfbigmdpdcpkfaaGreatDoor

namespace Go.Proofs.YtfbigmdpdcpkfaaGreatDoor
open Go Go.RowKit Bn
attribute [local go_sem ↓] Go.wp_at_zero Go.wp_at_succ
theorem r_same18 (w : World) (A : Option Addr) (n c : Nat) (l : List Tkn) (h : TkS w A n c l) (A' : Option Addr) (n' c' : Nat) (l' : List Tkn) (h' : TkS w A' n' c' l') (hll : l = l') (hn : n < 1000000000000) : Calls Tryz.prog 14 #[.slice A n c, .slice A' n' c'] w (RetV w (.bool true)) := by
 subst hll
 obtain rfl : n = n' := by rw [← h.1, ← h'.1]
 go_enter Tryz.func14, Tryz.ntmps14
 go_wp2_with fail
 go_loopw [5] (fun iv wr => ∃ i : Nat, iv = .int .i64 (i : Nat) ∧ i ≤ n ∧ Below w.heap.size w wr) (fun iv _ => n - (intOf iv).toNat)
 case atStart => exact ⟨0, rfl, Nat.zero_le _, brefl w⟩
 case round =>
  obtain ⟨i, rfl, hi, hb⟩ := hrel
  rcases Nat.lt_or_ge i n with hlt | hge
  ·have hi1 : ((i : Int) < (n : Int)) = True := by simp; omega
   obtain ⟨g, t, e, hc, ht, c0, c1, c2, c3⟩ := (h.belw hb).cells hlt
   obtain ⟨g', t', e', hc', ht', d0, d1, d2, d3⟩ := (h'.belw hb).cells hlt
   obtain rfl : t = t' := Option.some.inj (ht.symm.trans ht')
   subst e e'
   have H := Lib.hid h
   have H' := Lib.hid h'
   clear h h' ht ht'
   go_wp2_with fail
   go_quiet (fail)
   go_wp2_with fail
   go_roundw
   case rel => exact ⟨i + 1, by go_num, by omega, below_drewN hb _⟩
   case measure => simp [intOf]; omega
  ·have hi1 : ((i : Int) < (n : Int)) = False := by simp; omega
   have H := Lib.hid h
   have H' := Lib.hid h'
   clear h h'
   go_wp2_with fail
   go_ret
   exact ⟨rfl, hb⟩
end Go.Proofs.YtfbigmdpdcpkfaaGreatDoor

namespace Go.Proofs.YtfbigmdpdcpkfaaGreatDoor
open Go Go.RowKit Bn
attribute [local go_sem ↓] Go.wp_at_zero Go.wp_at_succ
theorem r_split_x (w : World) (s : List UInt8) (x : Int) (l : List Tkn) (h : SplitOut s x l) : Calls Tryz.prog 12 #[strV s] w (RetTks w (.int .i64 x) l) :=
  (r_split w s).mono fun _ _ ⟨x', l', h', r⟩ => by
    obtain ⟨rfl, rfl⟩ := h.uniq h'
    exact r
end Go.Proofs.YtfbigmdpdcpkfaaGreatDoor

/- Walks: TokenSplits. -/
namespace Go.Proofs.YtfbigmdpdcpkfaaGreatDoor
open Go Go.RowKit Bn
attribute [local go_sem ↓] Go.wp_at_zero Go.wp_at_succ
theorem l_TokenSplits (w : World) (s : List UInt8) (_ : s.length < 9223372036854775808) (_ : Tab w) (hmx : Mx w) : Calls Tryz.prog 3 #[strV s] w (RetV w (.bool true)) := by
 obtain ⟨x, l, hx⟩ := splitOut s
 have hll := hx.len
 have HX := Lib.hid hx
 clear hx
 by_cases h1 : 3000 < s.length
 ·have f1 : ((3000 : Int) < (s.length : Int)) = True := eq_true (by omega)
  by_cases h2 : s.length ≤ 65536
  ·have f2 : ((65536 : Int) < (s.length : Int)) = False := eq_false (by omega)
   go_enter Tryz.func3, Tryz.ntmps3
   go_wp2_with fail
   (with_reducible refine (l18_awake w hmx).mono ?_); rintro e w1 ⟨rfl, hb1⟩
   have hmx1 := hmx.belw hb1
   go_wp2_with fail
   (with_reducible refine (l18_awake w1 hmx1).mono ?_); rintro e w2 ⟨rfl, hb2⟩
   have bw2 := hb1.trans (hb2.mono hb1.size)
   go_wp2_with fail
   go_ret
   exact retB rfl bw2
  ·have f2 : ((65536 : Int) < (s.length : Int)) = True := eq_true (by omega)
   go_enter Tryz.func3, Tryz.ntmps3
   go_wp2_with fail
   (with_reducible refine (l18_awake w hmx).mono ?_); rintro e w1 ⟨rfl, hb1⟩
   go_wp2_with fail
   (with_reducible refine (t_split_x w1 s x l HX.out).mono ?_); rintro e w2 ⟨A, n, c, rfl, hS, hb2⟩
   have hnl : n < 1000000000000 := by have := hS.1; omega
   have bw2 := hb1.trans (hb2.mono hb1.size)
   have HS := Lib.hid hS
   clear hS hb2 hb1
   go_wp2_with fail
   (with_reducible refine (r_split_x w2 s x l HX.out).mono ?_); rintro e w3 ⟨A3, n3, c3, rfl, hS3, hb3⟩
   have bw3 := bw2.trans (hb3.mono bw2.size)
   have HS2 := Lib.hid (HS.out.belw hb3)
   have HS3 := Lib.hid hS3
   clear hS3 hb3 HS bw2
   go_wp2_with fail
   (with_reducible refine (b_num_v w3 x).mono ?_); rintro e w4 ⟨rfl, hb4⟩
   have bw4 := bw3.trans (hb4.mono bw3.size)
   have HS4 := Lib.hid (HS2.out.belw hb4)
   have HS5 := Lib.hid (HS3.out.belw hb4)
   clear HS2 HS3 hb4 bw3
   go_wp2_with fail
   (with_reducible refine (r_same18 w4 A n c l HS4.out A3 n3 c3 l HS5.out rfl hnl).mono ?_); rintro e w5 ⟨rfl, hb5⟩
   have bw5 := bw4.trans (hb5.mono bw4.size)
   go_wp2_with fail
   go_ret
   exact retB rfl bw5
 ·have f1 : ((3000 : Int) < (s.length : Int)) = False := eq_false (by omega)
  go_enter Tryz.func3, Tryz.ntmps3
  go_wp2_with fail
  (with_reducible refine (l18_awake w hmx).mono ?_); rintro e w1 ⟨rfl, hb1⟩
  go_wp2_with fail
  (with_reducible refine (t_split_x w1 s x l HX.out).mono ?_); rintro e w2 ⟨A, n, c, rfl, hS, hb2⟩
  have hnl : n < 1000000000000 := by have := hS.1; omega
  have bw2 := hb1.trans (hb2.mono hb1.size)
  have HS := Lib.hid hS
  clear hS hb2 hb1
  go_wp2_with fail
  (with_reducible refine (r_split_x w2 s x l HX.out).mono ?_); rintro e w3 ⟨A3, n3, c3, rfl, hS3, hb3⟩
  have bw3 := bw2.trans (hb3.mono bw2.size)
  have HS2 := Lib.hid (HS.out.belw hb3)
  have HS3 := Lib.hid hS3
  clear hS3 hb3 HS bw2
  go_wp2_with fail
  (with_reducible refine (b_num_v w3 x).mono ?_); rintro e w4 ⟨rfl, hb4⟩
  have bw4 := bw3.trans (hb4.mono bw3.size)
  have HS4 := Lib.hid (HS2.out.belw hb4)
  have HS5 := Lib.hid (HS3.out.belw hb4)
  clear HS2 HS3 hb4 bw3
  go_wp2_with fail
  (with_reducible refine (r_same18 w4 A n c l HS4.out A3 n3 c3 l HS5.out rfl hnl).mono ?_); rintro e w5 ⟨rfl, hb5⟩
  have bw5 := bw4.trans (hb5.mono bw4.size)
  go_wp2_with fail
  go_ret
  exact retB rfl bw5
end Go.Proofs.YtfbigmdpdcpkfaaGreatDoor

/- TokenSplits: Split returns the tokens of a text, or the first error, as the reference does; for every input the law returns true. The listed library variables are tied to the program text. -/
namespace Go.Proofs.YtfbigmdpdcpkfaaGreatDoor
open Go Go.RowKit Bn Go.ChangeShapes Go.WideShapes Go.ChangeAt
theorem splits_contract (H : Type) (enc : TypeId × Value → H) (W : World) (base : Nat) (args : Array Value) (ds gs : List (DataW H)) (before : List MemPlace)
    (hval0 : ∀ (j : Nat) t v, Tryz.f3.params[j]? = some t → args[j]? = some v → Value.okWide Tryz.prog W .any base t v)
    (hW : DataW.Whole enc Tryz.prog Tryz.f3.params.toList Rows.tokenSplitsSpec.vars false W args.toList ds gs before) (hL : laidMetH Tryz.prog Rows.tokenSplitsRow.laid W) (hsh : W.ShapedOpen Tryz.prog) :
    Calls Tryz.prog 3 args W fun e W' => ∃ v, e = .returned v ∧ Rows.tokenSplitsSpec.post enc Tryz.prog Tryz.f3 false true false false W args v W' := by
  have hval : ∀ (j : Nat) t v, Tryz.f3.params[j]? = some t → args[j]? = some v → Value.okWide Tryz.prog W .any base t v := hval0
  have htab : Tab W := tab_of_laid hL
  have hmx : Mx W := mx_of_shaped hsh
  have hW' := hW
  obtain ⟨p, q, hA0, hV, rfl, hfz, hnd⟩ := hW
  have hA : DataW.TrodAll enc Tryz.prog W 0 (fun _ => true) true Tryz.f3.params.toList args.toList ds p := hA0
  rw [Tryz.params3] at hA hval
  obtain ⟨v0, d0, rfl, rfl, h0⟩ := trodAll_one hA
  obtain ⟨rfl, rfl⟩ := trodVars_none hV
  obtain ⟨s, rfl, rfl, rfl, hs⟩ := Go.ChangeMaps.open_string Tryz.underlying9 (hval 0 _ v0 rfl rfl) h0
  obtain ⟨t, rfl⟩ : ∃ t : List UInt8, s = ⟨t.toArray⟩ := ⟨s.data.toList, by simp⟩
  have ht : t.length < 9223372036854775808 := by unfold maxLen at hs; have h9 : t.length ≤ _ := hs; omega
  refine (l_TokenSplits W t ht htab hmx).mono fun e W' ⟨he, hb⟩ => ?_
  subst he
  exact ⟨_, rfl, law_post laid_out Tryz.underlying4 hW' rfl rfl (by kernel_rfl) rfl rfl rfl hb⟩
theorem splits_lifted (os : Os) (started : os.Started) (H : Type) (enc : TypeId × Value → H) (F : Stop.Interp) :
    ReturnsInHanded {} Tryz.checked os 3 .any ((OpenSpec.ofChange Rows.tokenSplitsSpec).preRow enc Tryz.prog Tryz.f3 Rows.tokenSplitsRow.domain false Rows.tokenSplitsRow.laid) (((OpenSpec.ofChange Rows.tokenSplitsSpec).at F).post enc Tryz.prog Tryz.f3 false true false false) := by
  have hx : DataW.whole enc Tryz.prog ((laidWorld os).forCall (fun _ _ => 0) ⟨#[], #[.string ⟨#[]⟩], []⟩).memory Tryz.f3.params.toList Rows.tokenSplitsSpec.vars false (#[.string ⟨#[]⟩] : Array Value).toList 8 = some ([.lit (.string [])], [], []) := by kernel_rfl
  have hl : laidMet Tryz.prog Rows.tokenSplitsRow.laid ((laidWorld os).forCall (fun _ _ => 0) ⟨#[], #[.string ⟨#[]⟩], []⟩).memory := laidMet_of_run' 8 (by kernel_rfl) (by kernel_rfl)
  refine returnsInHanded_of_row (C := Tryz.checked) (s := OpenSpec.ofChange Rows.tokenSplitsSpec) own_knob started (by kernel_rfl) Tryz.func3
    (witness_row_at (enc := enc) (C := Tryz.checked) false (laidWorld os) #[.string ⟨#[]⟩] rfl (by kernel_rfl) (by kernel_rfl) (by kernel_rfl)
      (OpenSpec.preRow_of_cond 8 hx (by kernel_rfl) (fun k hk => by cases hk) (by kernel_rfl) hl)) ?_
  intro W base args ds gs before hval hW _ _ _ hL hsh _
  exact splits_contract H enc W base args ds gs before hval hW hL hsh
theorem splits_j2 : (Rows.tokenSplitsRow.inPlace == Tryz.pinned.checked.prog.inPlace 3) = true := by kernel_rfl
theorem splits_j3 : (Rows.tokenSplitsRow.unfollowed == Tryz.pinned.checked.prog.unfollowed 3) = true := by kernel_rfl
theorem splits_j4 : (Rows.tokenSplitsRow.recurses == Tryz.pinned.checked.prog.recurses 3) = true := by kernel_rfl
theorem splits_j5 : (Rows.tokenSplitsRow.named == Tryz.pinned.checked.prog.varsNamed 3) = true := by kernel_rfl
theorem splits_joined : joinedFacts Tryz.pinned.checked.prog 3 Tryz.f3 (OpenSpec.ofChange Rows.tokenSplitsSpec).bare Rows.tokenSplitsRow = true := joined_parts (by kernel_rfl) splits_j2 splits_j3 splits_j4 splits_j5 (by kernel_rfl)
theorem splits_inst : Tryz.f3.isInstance Tryz.pinned.checked.prog Rows.tokenSplitsRow.origin Rows.tokenSplitsRow.targs := of_decide_eq_true (by kernel_rfl)
theorem splits_said : Rows.TokenSplitsSaid :=
  OpenClaim.holds_of_cond 3 Tryz.f3 rfl rfl rfl rfl rfl rfl rfl ⟨rfl, rfl, rfl, rfl, rfl⟩ rfl rfl rfl rfl rfl (by kernel_rfl) Tryz.func3 splits_joined
    splits_inst (by unfold Func.isWrapper; first | (rw [if_pos (by decide +kernel)]; kernel_rfl) | (rw [if_neg (by decide +kernel)]; exact ⟨rfl, rfl⟩))
    (fun os started H enc _ F => by rw [OpenClaim.pre_eq_preRow]; exact splits_lifted os started H enc F)
theorem splits_plain (f : FuncId) (fn : Func) (hf : Tryz.pinned.checked.prog.funcNamed "linkwork/linkworklaw18.TokenSplits" = some f) (hfn : Tryz.pinned.checked.prog.funcs[f]? = some fn) :
    true = Tryz.pinned.checked.prog.looks [] ∧ ∀ (j : Nat) t, fn.params[j]? = some t → Tryz.pinned.checked.prog.wantsStandIn t = false := by
  obtain rfl : f = 3 := Option.some.inj ((show Tryz.prog.funcNamed "linkwork/linkworklaw18.TokenSplits" = some 3 by kernel_rfl).symm.trans hf) |>.symm
  obtain rfl : fn = Tryz.f3 := (Option.some.inj (Tryz.func3.symm.trans hfn)).symm
  refine ⟨by kernel_rfl, fun j t ht => ?_⟩
  rw [Tryz.params3] at ht
  have hm : t ∈ [9] := by
    have := Array.mem_of_getElem? ht
    simp at this ⊢
    first
      | exact this
      | exact .inl this
  have hall : ([9].all fun u => !Tryz.prog.wantsStandIn u) = true := by kernel_rfl
  exact (show Tryz.prog.wantsStandIn t = false by simpa using List.all_eq_true.1 hall t hm)
theorem splits_holds : Rows.TokenSplitsCardSaid :=
  Claim7.holds_tied_plain_at .later [] _ _ _ _ splits_said (fun _ h => by cases h) (by kernel_rfl) (fun _ h => by cases h) tokenSplits_row_tie rfl ⟨rfl, rfl⟩ (by kernel_rfl) rfl splits_plain (by kernel_rfl)
end Go.Proofs.YtfbigmdpdcpkfaaGreatDoor
